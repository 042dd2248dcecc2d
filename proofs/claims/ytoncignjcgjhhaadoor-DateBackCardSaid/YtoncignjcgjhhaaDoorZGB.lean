/- Contracts and facts of functions of the program (calendar, dates and their documents), joined in one text by a program of this session. No condition but what each theorem states. -/
import Derived.Test.YtoncignjcgjhhaaDoorZGA
set_option linter.unusedVariables false
set_option linter.unusedSimpArgs false
namespace Go.Proofs.YtoncignjcgjhhaaDoor.Q
open Go.RowKit Go.Proofs.YtoncignjcgjhhaaDoorW.PrintWords Go.Proofs.YtoncignjcgjhhaaDoorW.PrintLast Go.Proofs.YtoncignjcgjhhaaDoorW.PrintMore
attribute [local go_sem] max2_int min2_int max_two min_two max_three min_three max_four min_four   -- for this text's walks alone
def tenorlaw5_awake.f (k : Nat)  : Option (Bool) := (date_Of.f k 1970 1 1).bind fun bt142 => ((date_Weekday.f 45656).bind fun bt144 => ((date_Easter.f 2025).bind fun bt146 => ((date_Parse.f k (⟨#[50, 48, 50, 53, 45, 48, 52, 45, 50, 48]⟩ : ByteArray)).bind fun bt148 => (if bt142.2 = 0 then (if bt144.2 = 0 then (if bt146.2 = 0 then (if bt148.2 = 0 then (if bt142.1 = 25567 then (if bt144.1 = 2 then (some (bt146.1 == bt148.1)) else (some false)) else (some false)) else (some false)) else (some false)) else (some false)) else (some false)))))
theorem tenorlaw5_awake.mono : ∀ k, LeO (tenorlaw5_awake.f k ) (tenorlaw5_awake.f (k + 1) ) := by
 intro  k
 unfold tenorlaw5_awake.f
 repeat' first
   | (with_reducible exact date_Of.mono _ _ _ _)
   | (with_reducible exact date_Parse.mono _ _)
   | (with_reducible exact LeO.refl _)
   | (with_reducible exact LeO.none _)
   | (with_reducible refine LeO.ite ?_ ?_)
   | (with_reducible refine LeO.bind ?_ (fun _ => ?_))
   | exact date_Of.mono _ _ _ _
   | exact date_Parse.mono _ _
   | exact LeO.none _
   | refine LeO.ite ?_ ?_
   | refine LeO.bind ?_ (fun _ => ?_)
set_option maxHeartbeats 8000000 in
set_option maxRecDepth 100000 in
theorem tenorlaw5_awake.calls (k : Nat)  (r : Bool) (w : World) (h : tenorlaw5_awake.f k  = some r) :
  Calls Tryd.prog 14 #[] w fun e w' => e = .returned (.bool r) ∧ Below w.heap.size w w' := by
 have HB := Aside0.mk (Below.refl w.heap.size w)
 have H : ((date_Of.f k 1970 1 1).bind fun bt142 => ((date_Weekday.f 45656).bind fun bt144 => ((date_Easter.f 2025).bind fun bt146 => ((date_Parse.f k (⟨#[50, 48, 50, 53, 45, 48, 52, 45, 50, 48]⟩ : ByteArray)).bind fun bt148 => (if bt142.2 = 0 then (if bt144.2 = 0 then (if bt146.2 = 0 then (if bt148.2 = 0 then (if bt142.1 = 25567 then (if bt144.1 = 2 then (some (bt146.1 == bt148.1)) else (some false)) else (some false)) else (some false)) else (some false)) else (some false)) else (some false)))))) = some r := h
 clear h;replace H := Option.bind_eq_some_iff.mp H
 obtain ⟨⟨t142, t143⟩, A10, H⟩ := H
 replace H : ((date_Weekday.f 45656).bind fun bt144 => ((date_Easter.f 2025).bind fun bt146 => ((date_Parse.f k (⟨#[50, 48, 50, 53, 45, 48, 52, 45, 50, 48]⟩ : ByteArray)).bind fun bt148 => (if t143 = 0 then (if bt144.2 = 0 then (if bt146.2 = 0 then (if bt148.2 = 0 then (if t142 = 25567 then (if bt144.1 = 2 then (some (bt146.1 == bt148.1)) else (some false)) else (some false)) else (some false)) else (some false)) else (some false)) else (some false))))) = some r := H
 have A1 := Aside0.mk A10;clear A10;replace H := Option.bind_eq_some_iff.mp H
 obtain ⟨⟨t144, t145⟩, A20, H⟩ := H
 replace H : ((date_Easter.f 2025).bind fun bt146 => ((date_Parse.f k (⟨#[50, 48, 50, 53, 45, 48, 52, 45, 50, 48]⟩ : ByteArray)).bind fun bt148 => (if t143 = 0 then (if t145 = 0 then (if bt146.2 = 0 then (if bt148.2 = 0 then (if t142 = 25567 then (if t144 = 2 then (some (bt146.1 == bt148.1)) else (some false)) else (some false)) else (some false)) else (some false)) else (some false)) else (some false)))) = some r := H
 have A2 := Aside0.mk A20;clear A20;replace H := Option.bind_eq_some_iff.mp H
 obtain ⟨⟨t146, t147⟩, A30, H⟩ := H
 replace H : ((date_Parse.f k (⟨#[50, 48, 50, 53, 45, 48, 52, 45, 50, 48]⟩ : ByteArray)).bind fun bt148 => (if t143 = 0 then (if t145 = 0 then (if t147 = 0 then (if bt148.2 = 0 then (if t142 = 25567 then (if t144 = 2 then (some (t146 == bt148.1)) else (some false)) else (some false)) else (some false)) else (some false)) else (some false)) else (some false))) = some r := H
 have A3 := Aside0.mk A30;clear A30;replace H := Option.bind_eq_some_iff.mp H
 obtain ⟨⟨t148, t149⟩, A40, H⟩ := H
 replace H : (if t143 = 0 then (if t145 = 0 then (if t147 = 0 then (if t149 = 0 then (if t142 = 25567 then (if t144 = 2 then (some (t146 == t148)) else (some false)) else (some false)) else (some false)) else (some false)) else (some false)) else (some false)) = some r := H
 have A4 := Aside0.mk A40;clear A40
 by_cases c5 : t143 = 0
 ·
  rw [if_pos c5] at H
  have c5b0 : (t143 == 0) = true := beq_iff_eq.mpr c5
  have c5b1 : (t143 != 0) = false := bne_eq_false_iff_eq.mpr c5
  clear c5
  by_cases c6 : t145 = 0
  ·
   rw [if_pos c6] at H
   have c6b0 : (t145 == 0) = true := beq_iff_eq.mpr c6
   have c6b1 : (t145 != 0) = false := bne_eq_false_iff_eq.mpr c6
   clear c6
   by_cases c7 : t147 = 0
   ·
    rw [if_pos c7] at H
    have c7b0 : (t147 == 0) = true := beq_iff_eq.mpr c7
    have c7b1 : (t147 != 0) = false := bne_eq_false_iff_eq.mpr c7
    clear c7
    by_cases c8 : t149 = 0
    ·
     rw [if_pos c8] at H
     have c8b0 : (t149 == 0) = true := beq_iff_eq.mpr c8
     have c8b1 : (t149 != 0) = false := bne_eq_false_iff_eq.mpr c8
     clear c8
     by_cases c9 : t142 = 25567
     ·
      rw [if_pos c9] at H
      have c9b0 : (t142 == 25567) = true := beq_iff_eq.mpr c9
      have c9b1 : (t142 != 25567) = false := bne_eq_false_iff_eq.mpr c9
      clear c9
      by_cases c10 : t144 = 2
      ·
       rw [if_pos c10] at H
       have c10b0 : (t144 == 2) = true := beq_iff_eq.mpr c10
       have c10b1 : (t144 != 2) = false := bne_eq_false_iff_eq.mpr c10
       clear c10
       obtain rfl := Option.some.inj H
       go_enter Tryd.func14, Tryd.ntmps14
       go_wp2_with (first | ((with_reducible refine gate_callee (f := 21) rfl ?_); refine goesL_ (some 10) rfl rfl Tryd.func21 (by kernel_rfl) rfl #[.int .i64 1970, .int .i64 1, .int .i64 1] rfl (by (try simp only [List.map_toArray, List.map_cons, List.map_nil]); first | done | rfl | (simp only [List.length_drop, List.length_take]; rfl)) ?_; (with_reducible refine (date_Of.calls k 1970 1 1 t142 t143 _ A1.out).mono ?_); rintro e w' ⟨rfl, ⟨nd, rfl⟩⟩; refine ⟨_, rfl, ?_⟩) | ((with_reducible refine gate_callee (f := 25) rfl ?_); refine goesL_ (some 14) rfl rfl Tryd.func25 (by kernel_rfl) rfl #[.int .i64 45656] rfl (by (try simp only [List.map_toArray, List.map_cons, List.map_nil]); first | done | rfl | (simp only [List.length_drop, List.length_take]; rfl)) ?_; (with_reducible refine (date_Weekday.calls 45656 t144 t145 _ A2.out).mono ?_); rintro e w' ⟨rfl, ⟨nd, rfl⟩⟩; refine ⟨_, rfl, ?_⟩) | ((with_reducible refine gate_callee (f := 12) rfl ?_); refine goesL_ (some 18) rfl rfl Tryd.func12 (by kernel_rfl) rfl #[.int .i64 2025] rfl (by (try simp only [List.map_toArray, List.map_cons, List.map_nil]); first | done | rfl | (simp only [List.length_drop, List.length_take]; rfl)) ?_; (with_reducible refine (date_Easter.calls 2025 t146 t147 _ A3.out).mono ?_); rintro e w' ⟨rfl, ⟨nd, rfl⟩⟩; refine ⟨_, rfl, ?_⟩) | ((with_reducible refine gate_callee (f := 15) rfl ?_); refine goesL_ (some 22) rfl rfl Tryd.func15 (by kernel_rfl) rfl #[.string (⟨#[50, 48, 50, 53, 45, 48, 52, 45, 50, 48]⟩ : ByteArray)] rfl (by (try simp only [List.map_toArray, List.map_cons, List.map_nil]); first | done | rfl | (simp only [List.length_drop, List.length_take]; rfl)) ?_; (with_reducible refine (date_Parse.calls k (⟨#[50, 48, 50, 53, 45, 48, 52, 45, 50, 48]⟩ : ByteArray) t148 t149 _ A4.out).mono ?_); rintro e w11 ⟨rfl, hb⟩; refine ⟨_, rfl, ?_⟩; have n0_ := Aside0.mk (below_step (by repeat (first | (with_reducible first | exact HB.out | apply below_alloc | apply pw_below_drewN | apply below_drew1) | exact HB.out)) hb); clear HB; have HB := n0_; clear n0_; (try clear hb); (try clear hb2); (try clear hk); (try clear hi)))
       go_ret
       exact ⟨by first | rfl | (simp [errW_none, errW_some] <;> rfl) | (simp [*, errW_none, errW_some] <;> rfl), by repeat (first | (with_reducible first | exact HB.out | apply below_alloc | apply pw_below_drewN | apply below_drew1) | exact HB.out)⟩
      ·
       rw [if_neg c10] at H
       have c10b0 : (t144 == 2) = false := beq_eq_false_iff_ne.mpr c10
       have c10b1 : (t144 != 2) = true := bne_iff_ne.mpr c10
       obtain rfl := Option.some.inj H
       go_enter Tryd.func14, Tryd.ntmps14
       go_wp2_with (first | ((with_reducible refine gate_callee (f := 21) rfl ?_); refine goesL_ (some 10) rfl rfl Tryd.func21 (by kernel_rfl) rfl #[.int .i64 1970, .int .i64 1, .int .i64 1] rfl (by (try simp only [List.map_toArray, List.map_cons, List.map_nil]); first | done | rfl | (simp only [List.length_drop, List.length_take]; rfl)) ?_; (with_reducible refine (date_Of.calls k 1970 1 1 t142 t143 _ A1.out).mono ?_); rintro e w' ⟨rfl, ⟨nd, rfl⟩⟩; refine ⟨_, rfl, ?_⟩) | ((with_reducible refine gate_callee (f := 25) rfl ?_); refine goesL_ (some 14) rfl rfl Tryd.func25 (by kernel_rfl) rfl #[.int .i64 45656] rfl (by (try simp only [List.map_toArray, List.map_cons, List.map_nil]); first | done | rfl | (simp only [List.length_drop, List.length_take]; rfl)) ?_; (with_reducible refine (date_Weekday.calls 45656 t144 t145 _ A2.out).mono ?_); rintro e w' ⟨rfl, ⟨nd, rfl⟩⟩; refine ⟨_, rfl, ?_⟩) | ((with_reducible refine gate_callee (f := 12) rfl ?_); refine goesL_ (some 18) rfl rfl Tryd.func12 (by kernel_rfl) rfl #[.int .i64 2025] rfl (by (try simp only [List.map_toArray, List.map_cons, List.map_nil]); first | done | rfl | (simp only [List.length_drop, List.length_take]; rfl)) ?_; (with_reducible refine (date_Easter.calls 2025 t146 t147 _ A3.out).mono ?_); rintro e w' ⟨rfl, ⟨nd, rfl⟩⟩; refine ⟨_, rfl, ?_⟩) | ((with_reducible refine gate_callee (f := 15) rfl ?_); refine goesL_ (some 22) rfl rfl Tryd.func15 (by kernel_rfl) rfl #[.string (⟨#[50, 48, 50, 53, 45, 48, 52, 45, 50, 48]⟩ : ByteArray)] rfl (by (try simp only [List.map_toArray, List.map_cons, List.map_nil]); first | done | rfl | (simp only [List.length_drop, List.length_take]; rfl)) ?_; (with_reducible refine (date_Parse.calls k (⟨#[50, 48, 50, 53, 45, 48, 52, 45, 50, 48]⟩ : ByteArray) t148 t149 _ A4.out).mono ?_); rintro e w12 ⟨rfl, hb⟩; refine ⟨_, rfl, ?_⟩; have n0_ := Aside0.mk (below_step (by repeat (first | (with_reducible first | exact HB.out | apply below_alloc | apply pw_below_drewN | apply below_drew1) | exact HB.out)) hb); clear HB; have HB := n0_; clear n0_; (try clear hb); (try clear hb2); (try clear hk); (try clear hi)))
       go_ret
       exact ⟨by first | rfl | (simp [errW_none, errW_some] <;> rfl) | (simp [*, errW_none, errW_some] <;> rfl), by repeat (first | (with_reducible first | exact HB.out | apply below_alloc | apply pw_below_drewN | apply below_drew1) | exact HB.out)⟩
     ·
      rw [if_neg c9] at H
      have c9b0 : (t142 == 25567) = false := beq_eq_false_iff_ne.mpr c9
      have c9b1 : (t142 != 25567) = true := bne_iff_ne.mpr c9
      obtain rfl := Option.some.inj H
      go_enter Tryd.func14, Tryd.ntmps14
      go_wp2_with (first | ((with_reducible refine gate_callee (f := 21) rfl ?_); refine goesL_ (some 10) rfl rfl Tryd.func21 (by kernel_rfl) rfl #[.int .i64 1970, .int .i64 1, .int .i64 1] rfl (by (try simp only [List.map_toArray, List.map_cons, List.map_nil]); first | done | rfl | (simp only [List.length_drop, List.length_take]; rfl)) ?_; (with_reducible refine (date_Of.calls k 1970 1 1 t142 t143 _ A1.out).mono ?_); rintro e w' ⟨rfl, ⟨nd, rfl⟩⟩; refine ⟨_, rfl, ?_⟩) | ((with_reducible refine gate_callee (f := 25) rfl ?_); refine goesL_ (some 14) rfl rfl Tryd.func25 (by kernel_rfl) rfl #[.int .i64 45656] rfl (by (try simp only [List.map_toArray, List.map_cons, List.map_nil]); first | done | rfl | (simp only [List.length_drop, List.length_take]; rfl)) ?_; (with_reducible refine (date_Weekday.calls 45656 t144 t145 _ A2.out).mono ?_); rintro e w' ⟨rfl, ⟨nd, rfl⟩⟩; refine ⟨_, rfl, ?_⟩) | ((with_reducible refine gate_callee (f := 12) rfl ?_); refine goesL_ (some 18) rfl rfl Tryd.func12 (by kernel_rfl) rfl #[.int .i64 2025] rfl (by (try simp only [List.map_toArray, List.map_cons, List.map_nil]); first | done | rfl | (simp only [List.length_drop, List.length_take]; rfl)) ?_; (with_reducible refine (date_Easter.calls 2025 t146 t147 _ A3.out).mono ?_); rintro e w' ⟨rfl, ⟨nd, rfl⟩⟩; refine ⟨_, rfl, ?_⟩) | ((with_reducible refine gate_callee (f := 15) rfl ?_); refine goesL_ (some 22) rfl rfl Tryd.func15 (by kernel_rfl) rfl #[.string (⟨#[50, 48, 50, 53, 45, 48, 52, 45, 50, 48]⟩ : ByteArray)] rfl (by (try simp only [List.map_toArray, List.map_cons, List.map_nil]); first | done | rfl | (simp only [List.length_drop, List.length_take]; rfl)) ?_; (with_reducible refine (date_Parse.calls k (⟨#[50, 48, 50, 53, 45, 48, 52, 45, 50, 48]⟩ : ByteArray) t148 t149 _ A4.out).mono ?_); rintro e w13 ⟨rfl, hb⟩; refine ⟨_, rfl, ?_⟩; have n0_ := Aside0.mk (below_step (by repeat (first | (with_reducible first | exact HB.out | apply below_alloc | apply pw_below_drewN | apply below_drew1) | exact HB.out)) hb); clear HB; have HB := n0_; clear n0_; (try clear hb); (try clear hb2); (try clear hk); (try clear hi)))
      go_ret
      exact ⟨by first | rfl | (simp [errW_none, errW_some] <;> rfl) | (simp [*, errW_none, errW_some] <;> rfl), by repeat (first | (with_reducible first | exact HB.out | apply below_alloc | apply pw_below_drewN | apply below_drew1) | exact HB.out)⟩
    ·
     rw [if_neg c8] at H
     have c8b0 : (t149 == 0) = false := beq_eq_false_iff_ne.mpr c8
     have c8b1 : (t149 != 0) = true := bne_iff_ne.mpr c8
     obtain rfl := Option.some.inj H
     go_enter Tryd.func14, Tryd.ntmps14
     go_wp2_with (first | ((with_reducible refine gate_callee (f := 21) rfl ?_); refine goesL_ (some 10) rfl rfl Tryd.func21 (by kernel_rfl) rfl #[.int .i64 1970, .int .i64 1, .int .i64 1] rfl (by (try simp only [List.map_toArray, List.map_cons, List.map_nil]); first | done | rfl | (simp only [List.length_drop, List.length_take]; rfl)) ?_; (with_reducible refine (date_Of.calls k 1970 1 1 t142 t143 _ A1.out).mono ?_); rintro e w' ⟨rfl, ⟨nd, rfl⟩⟩; refine ⟨_, rfl, ?_⟩) | ((with_reducible refine gate_callee (f := 25) rfl ?_); refine goesL_ (some 14) rfl rfl Tryd.func25 (by kernel_rfl) rfl #[.int .i64 45656] rfl (by (try simp only [List.map_toArray, List.map_cons, List.map_nil]); first | done | rfl | (simp only [List.length_drop, List.length_take]; rfl)) ?_; (with_reducible refine (date_Weekday.calls 45656 t144 t145 _ A2.out).mono ?_); rintro e w' ⟨rfl, ⟨nd, rfl⟩⟩; refine ⟨_, rfl, ?_⟩) | ((with_reducible refine gate_callee (f := 12) rfl ?_); refine goesL_ (some 18) rfl rfl Tryd.func12 (by kernel_rfl) rfl #[.int .i64 2025] rfl (by (try simp only [List.map_toArray, List.map_cons, List.map_nil]); first | done | rfl | (simp only [List.length_drop, List.length_take]; rfl)) ?_; (with_reducible refine (date_Easter.calls 2025 t146 t147 _ A3.out).mono ?_); rintro e w' ⟨rfl, ⟨nd, rfl⟩⟩; refine ⟨_, rfl, ?_⟩) | ((with_reducible refine gate_callee (f := 15) rfl ?_); refine goesL_ (some 22) rfl rfl Tryd.func15 (by kernel_rfl) rfl #[.string (⟨#[50, 48, 50, 53, 45, 48, 52, 45, 50, 48]⟩ : ByteArray)] rfl (by (try simp only [List.map_toArray, List.map_cons, List.map_nil]); first | done | rfl | (simp only [List.length_drop, List.length_take]; rfl)) ?_; (with_reducible refine (date_Parse.calls k (⟨#[50, 48, 50, 53, 45, 48, 52, 45, 50, 48]⟩ : ByteArray) t148 t149 _ A4.out).mono ?_); rintro e w14 ⟨rfl, hb⟩; refine ⟨_, rfl, ?_⟩; have n0_ := Aside0.mk (below_step (by repeat (first | (with_reducible first | exact HB.out | apply below_alloc | apply pw_below_drewN | apply below_drew1) | exact HB.out)) hb); clear HB; have HB := n0_; clear n0_; (try clear hb); (try clear hb2); (try clear hk); (try clear hi)))
     go_ret
     exact ⟨by first | rfl | (simp [errW_none, errW_some] <;> rfl) | (simp [*, errW_none, errW_some] <;> rfl), by repeat (first | (with_reducible first | exact HB.out | apply below_alloc | apply pw_below_drewN | apply below_drew1) | exact HB.out)⟩
   ·
    rw [if_neg c7] at H
    have c7b0 : (t147 == 0) = false := beq_eq_false_iff_ne.mpr c7
    have c7b1 : (t147 != 0) = true := bne_iff_ne.mpr c7
    obtain rfl := Option.some.inj H
    go_enter Tryd.func14, Tryd.ntmps14
    go_wp2_with (first | ((with_reducible refine gate_callee (f := 21) rfl ?_); refine goesL_ (some 10) rfl rfl Tryd.func21 (by kernel_rfl) rfl #[.int .i64 1970, .int .i64 1, .int .i64 1] rfl (by (try simp only [List.map_toArray, List.map_cons, List.map_nil]); first | done | rfl | (simp only [List.length_drop, List.length_take]; rfl)) ?_; (with_reducible refine (date_Of.calls k 1970 1 1 t142 t143 _ A1.out).mono ?_); rintro e w' ⟨rfl, ⟨nd, rfl⟩⟩; refine ⟨_, rfl, ?_⟩) | ((with_reducible refine gate_callee (f := 25) rfl ?_); refine goesL_ (some 14) rfl rfl Tryd.func25 (by kernel_rfl) rfl #[.int .i64 45656] rfl (by (try simp only [List.map_toArray, List.map_cons, List.map_nil]); first | done | rfl | (simp only [List.length_drop, List.length_take]; rfl)) ?_; (with_reducible refine (date_Weekday.calls 45656 t144 t145 _ A2.out).mono ?_); rintro e w' ⟨rfl, ⟨nd, rfl⟩⟩; refine ⟨_, rfl, ?_⟩) | ((with_reducible refine gate_callee (f := 12) rfl ?_); refine goesL_ (some 18) rfl rfl Tryd.func12 (by kernel_rfl) rfl #[.int .i64 2025] rfl (by (try simp only [List.map_toArray, List.map_cons, List.map_nil]); first | done | rfl | (simp only [List.length_drop, List.length_take]; rfl)) ?_; (with_reducible refine (date_Easter.calls 2025 t146 t147 _ A3.out).mono ?_); rintro e w' ⟨rfl, ⟨nd, rfl⟩⟩; refine ⟨_, rfl, ?_⟩) | ((with_reducible refine gate_callee (f := 15) rfl ?_); refine goesL_ (some 22) rfl rfl Tryd.func15 (by kernel_rfl) rfl #[.string (⟨#[50, 48, 50, 53, 45, 48, 52, 45, 50, 48]⟩ : ByteArray)] rfl (by (try simp only [List.map_toArray, List.map_cons, List.map_nil]); first | done | rfl | (simp only [List.length_drop, List.length_take]; rfl)) ?_; (with_reducible refine (date_Parse.calls k (⟨#[50, 48, 50, 53, 45, 48, 52, 45, 50, 48]⟩ : ByteArray) t148 t149 _ A4.out).mono ?_); rintro e w15 ⟨rfl, hb⟩; refine ⟨_, rfl, ?_⟩; have n0_ := Aside0.mk (below_step (by repeat (first | (with_reducible first | exact HB.out | apply below_alloc | apply pw_below_drewN | apply below_drew1) | exact HB.out)) hb); clear HB; have HB := n0_; clear n0_; (try clear hb); (try clear hb2); (try clear hk); (try clear hi)))
    go_ret
    exact ⟨by first | rfl | (simp [errW_none, errW_some] <;> rfl) | (simp [*, errW_none, errW_some] <;> rfl), by repeat (first | (with_reducible first | exact HB.out | apply below_alloc | apply pw_below_drewN | apply below_drew1) | exact HB.out)⟩
  ·
   rw [if_neg c6] at H
   have c6b0 : (t145 == 0) = false := beq_eq_false_iff_ne.mpr c6
   have c6b1 : (t145 != 0) = true := bne_iff_ne.mpr c6
   obtain rfl := Option.some.inj H
   go_enter Tryd.func14, Tryd.ntmps14
   go_wp2_with (first | ((with_reducible refine gate_callee (f := 21) rfl ?_); refine goesL_ (some 10) rfl rfl Tryd.func21 (by kernel_rfl) rfl #[.int .i64 1970, .int .i64 1, .int .i64 1] rfl (by (try simp only [List.map_toArray, List.map_cons, List.map_nil]); first | done | rfl | (simp only [List.length_drop, List.length_take]; rfl)) ?_; (with_reducible refine (date_Of.calls k 1970 1 1 t142 t143 _ A1.out).mono ?_); rintro e w' ⟨rfl, ⟨nd, rfl⟩⟩; refine ⟨_, rfl, ?_⟩) | ((with_reducible refine gate_callee (f := 25) rfl ?_); refine goesL_ (some 14) rfl rfl Tryd.func25 (by kernel_rfl) rfl #[.int .i64 45656] rfl (by (try simp only [List.map_toArray, List.map_cons, List.map_nil]); first | done | rfl | (simp only [List.length_drop, List.length_take]; rfl)) ?_; (with_reducible refine (date_Weekday.calls 45656 t144 t145 _ A2.out).mono ?_); rintro e w' ⟨rfl, ⟨nd, rfl⟩⟩; refine ⟨_, rfl, ?_⟩) | ((with_reducible refine gate_callee (f := 12) rfl ?_); refine goesL_ (some 18) rfl rfl Tryd.func12 (by kernel_rfl) rfl #[.int .i64 2025] rfl (by (try simp only [List.map_toArray, List.map_cons, List.map_nil]); first | done | rfl | (simp only [List.length_drop, List.length_take]; rfl)) ?_; (with_reducible refine (date_Easter.calls 2025 t146 t147 _ A3.out).mono ?_); rintro e w' ⟨rfl, ⟨nd, rfl⟩⟩; refine ⟨_, rfl, ?_⟩) | ((with_reducible refine gate_callee (f := 15) rfl ?_); refine goesL_ (some 22) rfl rfl Tryd.func15 (by kernel_rfl) rfl #[.string (⟨#[50, 48, 50, 53, 45, 48, 52, 45, 50, 48]⟩ : ByteArray)] rfl (by (try simp only [List.map_toArray, List.map_cons, List.map_nil]); first | done | rfl | (simp only [List.length_drop, List.length_take]; rfl)) ?_; (with_reducible refine (date_Parse.calls k (⟨#[50, 48, 50, 53, 45, 48, 52, 45, 50, 48]⟩ : ByteArray) t148 t149 _ A4.out).mono ?_); rintro e w16 ⟨rfl, hb⟩; refine ⟨_, rfl, ?_⟩; have n0_ := Aside0.mk (below_step (by repeat (first | (with_reducible first | exact HB.out | apply below_alloc | apply pw_below_drewN | apply below_drew1) | exact HB.out)) hb); clear HB; have HB := n0_; clear n0_; (try clear hb); (try clear hb2); (try clear hk); (try clear hi)))
   go_ret
   exact ⟨by first | rfl | (simp [errW_none, errW_some] <;> rfl) | (simp [*, errW_none, errW_some] <;> rfl), by repeat (first | (with_reducible first | exact HB.out | apply below_alloc | apply pw_below_drewN | apply below_drew1) | exact HB.out)⟩
 ·
  rw [if_neg c5] at H
  have c5b0 : (t143 == 0) = false := beq_eq_false_iff_ne.mpr c5
  have c5b1 : (t143 != 0) = true := bne_iff_ne.mpr c5
  obtain rfl := Option.some.inj H
  go_enter Tryd.func14, Tryd.ntmps14
  go_wp2_with (first | ((with_reducible refine gate_callee (f := 21) rfl ?_); refine goesL_ (some 10) rfl rfl Tryd.func21 (by kernel_rfl) rfl #[.int .i64 1970, .int .i64 1, .int .i64 1] rfl (by (try simp only [List.map_toArray, List.map_cons, List.map_nil]); first | done | rfl | (simp only [List.length_drop, List.length_take]; rfl)) ?_; (with_reducible refine (date_Of.calls k 1970 1 1 t142 t143 _ A1.out).mono ?_); rintro e w' ⟨rfl, ⟨nd, rfl⟩⟩; refine ⟨_, rfl, ?_⟩) | ((with_reducible refine gate_callee (f := 25) rfl ?_); refine goesL_ (some 14) rfl rfl Tryd.func25 (by kernel_rfl) rfl #[.int .i64 45656] rfl (by (try simp only [List.map_toArray, List.map_cons, List.map_nil]); first | done | rfl | (simp only [List.length_drop, List.length_take]; rfl)) ?_; (with_reducible refine (date_Weekday.calls 45656 t144 t145 _ A2.out).mono ?_); rintro e w' ⟨rfl, ⟨nd, rfl⟩⟩; refine ⟨_, rfl, ?_⟩) | ((with_reducible refine gate_callee (f := 12) rfl ?_); refine goesL_ (some 18) rfl rfl Tryd.func12 (by kernel_rfl) rfl #[.int .i64 2025] rfl (by (try simp only [List.map_toArray, List.map_cons, List.map_nil]); first | done | rfl | (simp only [List.length_drop, List.length_take]; rfl)) ?_; (with_reducible refine (date_Easter.calls 2025 t146 t147 _ A3.out).mono ?_); rintro e w' ⟨rfl, ⟨nd, rfl⟩⟩; refine ⟨_, rfl, ?_⟩) | ((with_reducible refine gate_callee (f := 15) rfl ?_); refine goesL_ (some 22) rfl rfl Tryd.func15 (by kernel_rfl) rfl #[.string (⟨#[50, 48, 50, 53, 45, 48, 52, 45, 50, 48]⟩ : ByteArray)] rfl (by (try simp only [List.map_toArray, List.map_cons, List.map_nil]); first | done | rfl | (simp only [List.length_drop, List.length_take]; rfl)) ?_; (with_reducible refine (date_Parse.calls k (⟨#[50, 48, 50, 53, 45, 48, 52, 45, 50, 48]⟩ : ByteArray) t148 t149 _ A4.out).mono ?_); rintro e w17 ⟨rfl, hb⟩; refine ⟨_, rfl, ?_⟩; have n0_ := Aside0.mk (below_step (by repeat (first | (with_reducible first | exact HB.out | apply below_alloc | apply pw_below_drewN | apply below_drew1) | exact HB.out)) hb); clear HB; have HB := n0_; clear n0_; (try clear hb); (try clear hb2); (try clear hk); (try clear hi)))
  go_ret
  exact ⟨by first | rfl | (simp [errW_none, errW_some] <;> rfl) | (simp [*, errW_none, errW_some] <;> rfl), by repeat (first | (with_reducible first | exact HB.out | apply below_alloc | apply pw_below_drewN | apply below_drew1) | exact HB.out)⟩
end Go.Proofs.YtoncignjcgjhhaaDoor.Q
namespace Go.Proofs.YtoncignjcgjhhaaDoor.Q
open Go.RowKit Go.Proofs.YtoncignjcgjhhaaDoorW.PrintWords Go.Proofs.YtoncignjcgjhhaaDoorW.PrintLast Go.Proofs.YtoncignjcgjhhaaDoorW.PrintMore
attribute [local go_sem] max2_int min2_int max_two min_two max_three min_three max_four min_four   -- for this text's walks alone
mutual
def date_civil.l0 : Nat → Int → Int → Option (Int × Int × Int)
  | 0, _, _ => none
  | k + 1, x0, x2 => (date_before.f (wrap64 (x2 + 1))).bind fun t158 => (if t158 ≤ x0 then (date_civil.l0 k x0 (wrap64 (x2 + 1))) else ((date_before.f x2).bind fun t159 => (date_civil.l1 k x2 1 (wrap64 (x0 - t159)))))
def date_civil.l1 : Nat → Int → Int → Int → Option (Int × Int × Int)
  | 0, _, _, _ => none
  | k + 1, x2, x3, x4 => (date_length.f x2 x3).bind fun t160 => (if x4 ≥ t160 then ((date_length.f x2 x3).bind fun t161 => (date_civil.l1 k x2 (wrap64 (x3 + 1)) (wrap64 (x4 - t161)))) else (some (x2, x3, wrap64 (x4 + 1))))
end
def date_civil.f (k : Nat) (a0 : Int) : Option (Int × Int × Int) := date_civil.l0 k a0 (wrap64 (1900 + (wrap64 (Int.tdiv a0 366))))
theorem date_civil.mono_l : ∀ k, (∀ y0 y1, LeO (date_civil.l0 k y0 y1) (date_civil.l0 (k + 1) y0 y1)) ∧ (∀ y0 y1 y2, LeO (date_civil.l1 k y0 y1 y2) (date_civil.l1 (k + 1) y0 y1 y2))
 | 0 => ⟨fun _ _ r h => by simp [date_civil.l0] at h, fun _ _ _ r h => by simp [date_civil.l1] at h⟩
 | k + 1 => by
  obtain ⟨ih0, ih1⟩ := date_civil.mono_l k
  refine ⟨?_, ?_⟩
  ·
   intro y0 y1
   unfold date_civil.l0
   repeat' first
   | (with_reducible exact ih0 _ _)
   | (with_reducible exact ih1 _ _ _)
   | (with_reducible exact LeO.refl _)
   | (with_reducible exact LeO.none _)
   | (with_reducible refine LeO.ite ?_ ?_)
   | (with_reducible refine LeO.bind ?_ (fun _ => ?_))
   | exact ih0 _ _
   | exact ih1 _ _ _
   | exact LeO.none _
   | refine LeO.ite ?_ ?_
   | refine LeO.bind ?_ (fun _ => ?_)
  ·
   intro y0 y1 y2
   unfold date_civil.l1
   repeat' first
   | (with_reducible exact ih0 _ _)
   | (with_reducible exact ih1 _ _ _)
   | (with_reducible exact LeO.refl _)
   | (with_reducible exact LeO.none _)
   | (with_reducible refine LeO.ite ?_ ?_)
   | (with_reducible refine LeO.bind ?_ (fun _ => ?_))
   | exact ih0 _ _
   | exact ih1 _ _ _
   | exact LeO.none _
   | refine LeO.ite ?_ ?_
   | refine LeO.bind ?_ (fun _ => ?_)
theorem date_civil.mono : ∀ a0 k, LeO (date_civil.f k a0) (date_civil.f (k + 1) a0) := by
 intro a0 k
 obtain ⟨ih0, ih1⟩ := date_civil.mono_l k
 unfold date_civil.f
 repeat' first
   | (with_reducible exact ih0 _ _)
   | (with_reducible exact ih1 _ _ _)
   | (with_reducible exact LeO.refl _)
   | (with_reducible exact LeO.none _)
   | (with_reducible refine LeO.ite ?_ ?_)
   | (with_reducible refine LeO.bind ?_ (fun _ => ?_))
   | exact ih0 _ _
   | exact ih1 _ _ _
   | exact LeO.none _
   | refine LeO.ite ?_ ?_
   | refine LeO.bind ?_ (fun _ => ?_)
set_option maxHeartbeats 8000000 in
set_option maxRecDepth 100000 in
theorem date_civil.calls (k : Nat) (a0 : Int) (r1 : Int) (r2 : Int) (r3 : Int) (w : World) (h : date_civil.f k a0 = some (r1, r2, r3)) :
  Calls Tryd.prog 37 #[.int .i64 a0] w fun e w' => e = .returned (.tuple #[.int .i64 r1, .int .i64 r2, .int .i64 r3]) ∧ Drawn0 w w' := by
 have H : (date_civil.l0 k a0 (wrap64 (1900 + (wrap64 (Int.tdiv a0 366))))) = some (r1, r2, r3) := h
 clear h;have H' := Aside0.mk H;clear H
 go_enter Tryd.func37, Tryd.ntmps37
 go_wp2
 go_loopg [2] k (fun kq v2 w' => ∃ (x2_1 : Int), v2 = .int .i64 x2_1 ∧ Aside0 (date_civil.l0 kq a0 x2_1 = some (r1, r2, r3)) ∧ Aside0 (kq ≤ k) ∧ Drawn0 w w')
 case atStart => exact ⟨(wrap64 (1900 + (wrap64 (Int.tdiv a0 366)))), (by first | rfl | (simp; done) | (simp [*]; done)), H', ⟨Nat.le_refl _⟩, by repeat (first | exact Drawn0.refl _ | apply Drawn0.step)⟩
 case round =>
  clear H'
  obtain ⟨x2_1, rfl, HA, HK1, ⟨m1, rfl⟩⟩ := hrel
  cases gk with
  | zero => exact absurd HA.out (by simp [date_civil.l0])
  | succ k1 =>
   have H := HA.out;clear HA
   simp only [date_civil.l0] at H
   replace H := Option.bind_eq_some_iff.mp H
   obtain ⟨t158, A20, H⟩ := H
   replace H : (if t158 ≤ a0 then (date_civil.l0 k1 a0 (wrap64 (x2_1 + 1))) else ((date_before.f x2_1).bind fun t159 => (date_civil.l1 k1 x2_1 1 (wrap64 (a0 - t159))))) = some (r1, r2, r3) := H
   have A2 := Aside0.mk A20;clear A20
   by_cases c3 : t158 ≤ a0
   ·
    rw [if_pos c3] at H
    have c3b0 : decide (t158 ≤ a0) = true := decide_eq_true c3
    clear c3;have H' := Aside0.mk H;clear H
    go_wp2_with (first | ((with_reducible refine gate_callee (f := 44) rfl ?_); refine goesL_ (some 10) rfl rfl Tryd.func44 (by kernel_rfl) rfl #[.int .i64 (wrap64 (x2_1 + 1))] rfl (by (try simp only [List.map_toArray, List.map_cons, List.map_nil]); first | done | rfl | (simp only [List.length_drop, List.length_take]; rfl)) ?_; (with_reducible refine (date_before.calls (wrap64 (x2_1 + 1)) t158 _ A2.out).mono ?_); rintro e w' ⟨rfl, ⟨nd, rfl⟩⟩; refine ⟨_, rfl, ?_⟩))
    go_roundg k1
    case measure => have := HK1.out; omega
    case rel => exact ⟨(wrap64 (x2_1 + 1)), (by first | rfl | (simp; done) | (simp [*]; done)), H', ⟨by have := HK1.out; omega⟩, by repeat (first | exact Drawn0.refl _ | apply Drawn0.step)⟩
   ·
    rw [if_neg c3] at H
    have c3b0 : decide (t158 ≤ a0) = false := decide_eq_false c3
    clear c3;replace H := Option.bind_eq_some_iff.mp H
    obtain ⟨t159, A40, H⟩ := H
    replace H : (date_civil.l1 k1 x2_1 1 (wrap64 (a0 - t159))) = some (r1, r2, r3) := H
    have A4 := Aside0.mk A40;clear A40;have H' := Aside0.mk H;clear H
    go_wp2_with (first | ((with_reducible refine gate_callee (f := 44) rfl ?_); refine goesL_ (some 10) rfl rfl Tryd.func44 (by kernel_rfl) rfl #[.int .i64 (wrap64 (x2_1 + 1))] rfl (by (try simp only [List.map_toArray, List.map_cons, List.map_nil]); first | done | rfl | (simp only [List.length_drop, List.length_take]; rfl)) ?_; (with_reducible refine (date_before.calls (wrap64 (x2_1 + 1)) t158 _ A2.out).mono ?_); rintro e w' ⟨rfl, ⟨nd, rfl⟩⟩; refine ⟨_, rfl, ?_⟩) | ((with_reducible refine gate_callee (f := 44) rfl ?_); refine goesL_ (some 17) rfl rfl Tryd.func44 (by kernel_rfl) rfl #[.int .i64 x2_1] rfl (by (try simp only [List.map_toArray, List.map_cons, List.map_nil]); first | done | rfl | (simp only [List.length_drop, List.length_take]; rfl)) ?_; (with_reducible refine (date_before.calls x2_1 t159 _ A4.out).mono ?_); rintro e w' ⟨rfl, ⟨nd, rfl⟩⟩; refine ⟨_, rfl, ?_⟩))
    go_loopg [3, 4] k1 (fun kq v3 v4 w' => ∃ (x3_2 : Int) (x4_2 : Int), v3 = .int .i64 x3_2 ∧ v4 = .int .i64 x4_2 ∧ Aside0 (date_civil.l1 kq x2_1 x3_2 x4_2 = some (r1, r2, r3)) ∧ Aside0 (kq ≤ k1) ∧ Drawn0 w w')
    case atStart => exact ⟨(1), (wrap64 (a0 - t159)), (by first | rfl | (simp; done) | (simp [*]; done)), (by first | rfl | (simp; done) | (simp [*]; done)), H', ⟨Nat.le_refl _⟩, by repeat (first | exact Drawn0.refl _ | apply Drawn0.step)⟩
    case round =>
     clear H'
     obtain ⟨x3_2, x4_2, rfl, rfl, HA, HK2, ⟨m2, rfl⟩⟩ := hrel
     cases gk with
     | zero => exact absurd HA.out (by simp [date_civil.l1])
     | succ k2 =>
      have H := HA.out;clear HA
      simp only [date_civil.l1] at H
      replace H := Option.bind_eq_some_iff.mp H
      obtain ⟨t160, A50, H⟩ := H
      replace H : (if x4_2 ≥ t160 then ((date_length.f x2_1 x3_2).bind fun t161 => (date_civil.l1 k2 x2_1 (wrap64 (x3_2 + 1)) (wrap64 (x4_2 - t161)))) else (some (x2_1, x3_2, wrap64 (x4_2 + 1)))) = some (r1, r2, r3) := H
      have A5 := Aside0.mk A50;clear A50
      by_cases c6 : x4_2 ≥ t160
      ·
       rw [if_pos c6] at H
       have c6b0 : decide (t160 ≤ x4_2) = true := decide_eq_true c6
       clear c6;replace H := Option.bind_eq_some_iff.mp H
       obtain ⟨t161, A70, H⟩ := H
       replace H : (date_civil.l1 k2 x2_1 (wrap64 (x3_2 + 1)) (wrap64 (x4_2 - t161))) = some (r1, r2, r3) := H
       have A7 := Aside0.mk A70;clear A70;have H' := Aside0.mk H;clear H
       go_wp2_with (first | ((with_reducible refine gate_callee (f := 41) rfl ?_); refine goesL_ (some 22) rfl rfl Tryd.func41 (by kernel_rfl) rfl #[.int .i64 x2_1, .int .i64 x3_2] rfl (by (try simp only [List.map_toArray, List.map_cons, List.map_nil]); first | done | rfl | (simp only [List.length_drop, List.length_take]; rfl)) ?_; (with_reducible refine (date_length.calls x2_1 x3_2 t160 _ A5.out).mono ?_); rintro e w' ⟨rfl, ⟨nd, rfl⟩⟩; refine ⟨_, rfl, ?_⟩) | ((with_reducible refine gate_callee (f := 41) rfl ?_); refine goesL_ (some 29) rfl rfl Tryd.func41 (by kernel_rfl) rfl #[.int .i64 x2_1, .int .i64 x3_2] rfl (by (try simp only [List.map_toArray, List.map_cons, List.map_nil]); first | done | rfl | (simp only [List.length_drop, List.length_take]; rfl)) ?_; (with_reducible refine (date_length.calls x2_1 x3_2 t161 _ A7.out).mono ?_); rintro e w' ⟨rfl, ⟨nd, rfl⟩⟩; refine ⟨_, rfl, ?_⟩))
       go_roundg k2
       case measure => have := HK1.out; have := HK2.out; omega
       case rel => exact ⟨(wrap64 (x3_2 + 1)), (wrap64 (x4_2 - t161)), (by first | rfl | (simp; done) | (simp [*]; done)), (by first | rfl | (simp; done) | (simp [*]; done)), H', ⟨by have := HK1.out; have := HK2.out; omega⟩, by repeat (first | exact Drawn0.refl _ | apply Drawn0.step)⟩
      ·
       rw [if_neg c6] at H
       have c6b0 : decide (t160 ≤ x4_2) = false := decide_eq_false c6
       clear c6
       simp only [Option.some.injEq, Prod.mk.injEq] at H
       obtain ⟨rfl, rfl, rfl⟩ := H
       go_wp2_with (first | ((with_reducible refine gate_callee (f := 41) rfl ?_); refine goesL_ (some 22) rfl rfl Tryd.func41 (by kernel_rfl) rfl #[.int .i64 x2_1, .int .i64 x3_2] rfl (by (try simp only [List.map_toArray, List.map_cons, List.map_nil]); first | done | rfl | (simp only [List.length_drop, List.length_take]; rfl)) ?_; (with_reducible refine (date_length.calls x2_1 x3_2 t160 _ A5.out).mono ?_); rintro e w' ⟨rfl, ⟨nd, rfl⟩⟩; refine ⟨_, rfl, ?_⟩))
       go_ret3
       exact ⟨by first | rfl | (simp; done) | (simp [*]; done), by repeat (first | exact Drawn0.refl _ | apply Drawn0.step)⟩
def date_Civil.f (k : Nat) (a0 : Int) : Option (Int × Int × Int × Int) := (date_is.f a0).bind fun t162 => (if t162 = true then ((date_civil.f k a0).bind fun bt163 => (some (bt163.1, bt163.2.1, bt163.2.2, 0))) else (some (0, 0, 0, 51)))
theorem date_Civil.mono : ∀ a0 k, LeO (date_Civil.f k a0) (date_Civil.f (k + 1) a0) := by
 intro a0 k
 unfold date_Civil.f
 repeat' first
   | (with_reducible exact date_civil.mono _ _)
   | (with_reducible exact LeO.refl _)
   | (with_reducible exact LeO.none _)
   | (with_reducible refine LeO.ite ?_ ?_)
   | (with_reducible refine LeO.bind ?_ (fun _ => ?_))
   | exact date_civil.mono _ _
   | exact LeO.none _
   | refine LeO.ite ?_ ?_
   | refine LeO.bind ?_ (fun _ => ?_)
set_option maxHeartbeats 8000000 in
set_option maxRecDepth 100000 in
theorem date_Civil.calls (k : Nat) (a0 : Int) (r1 : Int) (r2 : Int) (r3 : Int) (r4 : Int) (w : World) (h : date_Civil.f k a0 = some (r1, r2, r3, r4)) :
  Calls Tryd.prog 23 #[.int .i64 a0] w fun e w' => e = .returned (.tuple #[.int .i64 r1, .int .i64 r2, .int .i64 r3, .int .i64 r4]) ∧ Drawn0 w w' := by
 have H : ((date_is.f a0).bind fun t162 => (if t162 = true then ((date_civil.f k a0).bind fun bt163 => (some (bt163.1, bt163.2.1, bt163.2.2, 0))) else (some (0, 0, 0, 51)))) = some (r1, r2, r3, r4) := h
 clear h;replace H := Option.bind_eq_some_iff.mp H
 obtain ⟨t162, A20, H⟩ := H
 replace H : (if t162 = true then ((date_civil.f k a0).bind fun bt163 => (some (bt163.1, bt163.2.1, bt163.2.2, 0))) else (some (0, 0, 0, 51))) = some (r1, r2, r3, r4) := H
 have A2 := Aside0.mk A20;clear A20
 by_cases c3 : t162 = true
 ·
  subst c3
  have H1 : ((date_civil.f k a0).bind fun bt163 => (some (bt163.1, bt163.2.1, bt163.2.2, 0))) = some (r1, r2, r3, r4) := by rw [if_pos rfl] at H; exact H
  clear H;have H := H1;clear H1;replace H := Option.bind_eq_some_iff.mp H
  obtain ⟨⟨t163, t164, t165⟩, A40, H⟩ := H
  replace H : (some (t163, t164, t165, 0)) = some (r1, r2, r3, r4) := H
  have A4 := Aside0.mk A40;clear A40
  simp only [Option.some.injEq, Prod.mk.injEq] at H
  obtain ⟨rfl, rfl, rfl, rfl⟩ := H
  go_enter Tryd.func23, Tryd.ntmps23
  go_wp2_with (first | ((with_reducible refine gate_callee (f := 36) rfl ?_); refine goesL_ (some 7) rfl rfl Tryd.func36 (by kernel_rfl) rfl #[.int .i64 a0] rfl (by (try simp only [List.map_toArray, List.map_cons, List.map_nil]); first | done | rfl | (simp only [List.length_drop, List.length_take]; rfl)) ?_; (with_reducible refine (date_is.calls a0 true _ A2.out).mono ?_); rintro e w' ⟨rfl, ⟨nd, rfl⟩⟩; refine ⟨_, rfl, ?_⟩) | ((with_reducible refine gate_callee (f := 37) rfl ?_); refine goesL_ (some 11) rfl rfl Tryd.func37 (by kernel_rfl) rfl #[.int .i64 a0] rfl (by (try simp only [List.map_toArray, List.map_cons, List.map_nil]); first | done | rfl | (simp only [List.length_drop, List.length_take]; rfl)) ?_; (with_reducible refine (date_civil.calls k a0 t163 t164 t165 _ A4.out).mono ?_); rintro e w' ⟨rfl, ⟨nd, rfl⟩⟩; refine ⟨_, rfl, ?_⟩))
  refine bodyPost_ret (results_list (rs := [.tmp 2, .tmp 3, .tmp 4, .tmp 5]) rfl (by simp) (.tmp (.tmp (.tmp (.tmp .nil))))) rfl ?_
  exact ⟨by first | rfl | (simp; done) | (simp [*]; done), by repeat (first | exact Drawn0.refl _ | apply Drawn0.step)⟩
 ·
  replace c3 := Bool.eq_false_iff.mpr c3;subst c3
  have H1 : (some (0, 0, 0, 51)) = some (r1, r2, r3, r4) := by rw [if_neg (show ¬ (false = true) by decide)] at H; exact H
  clear H;have H := H1;clear H1
  simp only [Option.some.injEq, Prod.mk.injEq] at H
  obtain ⟨rfl, rfl, rfl, rfl⟩ := H
  go_enter Tryd.func23, Tryd.ntmps23
  go_wp2_with (first | ((with_reducible refine gate_callee (f := 36) rfl ?_); refine goesL_ (some 7) rfl rfl Tryd.func36 (by kernel_rfl) rfl #[.int .i64 a0] rfl (by (try simp only [List.map_toArray, List.map_cons, List.map_nil]); first | done | rfl | (simp only [List.length_drop, List.length_take]; rfl)) ?_; (with_reducible refine (date_is.calls a0 false _ A2.out).mono ?_); rintro e w' ⟨rfl, ⟨nd, rfl⟩⟩; refine ⟨_, rfl, ?_⟩))
  refine bodyPost_ret (results_list (rs := [.tmp 2, .tmp 3, .tmp 4, .tmp 5]) rfl (by simp) (.tmp (.tmp (.tmp (.tmp .nil))))) rfl ?_
  exact ⟨by first | rfl | (simp; done) | (simp [*]; done), by repeat (first | exact Drawn0.refl _ | apply Drawn0.step)⟩
end Go.Proofs.YtoncignjcgjhhaaDoor.Q
namespace Go.Proofs.YtoncignjcgjhhaaDoor.L
open Go.RowKit Go.Proofs.YtoncignjcgjhhaaDoorW.PrintWords Go.Proofs.YtoncignjcgjhhaaDoorW.PrintLast Go.Proofs.YtoncignjcgjhhaaDoorW.PrintMore
open Go.Proofs.YtoncignjcgjhhaaDoor.Q
variable {a0 a1 a2 a3 a4 a5 a6 a7 a8 : Int}
theorem civil_l1 (y d : Int) (h0 : 0 ≤ d) (h1 : d < 365 + M.lp y) : ∀ (f : Nat) (m : Int), 1 ≤ m → m ≤ M.monOf y d → M.monOf y d - m = f →
  Ev (fun k => date_civil.l1 k y m (d - M.cum y m)) (y, M.monOf y d, d - M.cum y (M.monOf y d) + 1)
 | 0, m, a, b, c => by
  obtain ⟨p, q, r, s⟩ := M.monOf_spec y d h0 h1
  have e : m = M.monOf y d := by omega
  have hc := M.cum_succ y (M.monOf y d) p q
  have hg := M.cum_rng y (M.monOf y d)
  have hl := M.lp_01 y
  refine Ev.step (f := fun _ => some (y, M.monOf y d, d - M.cum y (M.monOf y d) + 1)) (fun k => ?_) (Ev.now _)
  rw [e]
  simp only [date_civil.l1, length, Option.bind_some]
  rw [if_neg (by omega), w64 (by omega) (by omega)]
 | f + 1, m, a, b, c => by
  obtain ⟨p, q, r, s⟩ := M.monOf_spec y d h0 h1
  have ih := civil_l1 y d h0 h1 f (m + 1) (by omega) (by omega) (by omega)
  have hc := M.cum_succ y m a (by omega)
  have hg := M.cum_rng y m
  have hle := M.cum_le y (show 1 ≤ m + 1 by omega) (show m + 1 ≤ M.monOf y d by omega) (by omega)
  have hl := M.lp_01 y;have hml := M.mlen_rng y m
  refine Ev.step (fun k => ?_) ih
  simp only [date_civil.l1, length, Option.bind_some]
  rw [if_pos (by omega), w64 (by omega) (by omega), w64 (by omega) (by omega), show d - M.cum y m - M.mlen y m = d - M.cum y (m + 1) from by omega]
theorem civil_l0 (n : Int) (h0 : 0 ≤ n) (h1 : n ≤ 109572) : ∀ (f : Nat) (y : Int), 1900 ≤ y → y ≤ M.yearOf n → M.yearOf n - y = f →
  Ev (fun k => date_civil.l0 k n y) (M.civY n, M.civM n, M.civD n)
 | 0, y, a, b, c => by
  obtain ⟨p, q, r, s⟩ := M.yearOf_spec n h0 h1
  have e : y = M.yearOf n := by omega
  have hs := M.before_succ (M.yearOf n)
  have hb := before_rng (M.yearOf n) (by omega) (by omega)
  obtain ⟨p2, q2, r2, s2⟩ := M.monOf_spec (M.yearOf n) (n - M.before (M.yearOf n)) (by omega) (by omega)
  have h := civil_l1 (M.yearOf n) (n - M.before (M.yearOf n)) (by omega) (by omega) (M.monOf (M.yearOf n) (n - M.before (M.yearOf n)) - 1).toNat 1 (by omega) p2 (by omega)
  rw [M.cum_1, Int.sub_zero] at h
  refine Ev.step (fun k => ?_) h
  rw [e]
  simp only [date_civil.l0]
  rw [w64 (by omega) (by omega), before _ (by omega) (by omega), before _ (by omega) (by omega)]
  simp only [Option.bind_some]
  rw [if_neg (by omega), w64 (by omega) (by omega)]
 | f + 1, y, a, b, c => by
  obtain ⟨p, q, r, s⟩ := M.yearOf_spec n h0 h1
  have ih := civil_l0 n h0 h1 f (y + 1) (by omega) (by omega) (by omega)
  have hle := M.before_le (show y + 1 ≤ M.yearOf n by omega)
  refine Ev.step (fun k => ?_) ih
  simp only [date_civil.l0]
  rw [w64 (by omega) (by omega), before _ (by omega) (by omega)]
  simp only [Option.bind_some]
  rw [if_pos (by omega)]
theorem civil (n : Int) (h0 : 0 ≤ n) (h1 : n ≤ 109572) : Ev (fun k => date_civil.f k n) (M.civY n, M.civM n, M.civD n) := by
 have hy : 1900 + n / 366 ≤ M.yearOf n := by unfold M.yearOf; split <;> omega
 have h := civil_l0 n h0 h1 (M.yearOf n - (1900 + n / 366)).toNat (1900 + n / 366) (by omega) hy (by omega)
 refine Ev.congr (fun k => ?_) h
 unfold date_civil.f
 rw [td h0, w64 (x := n / 366) (by omega) (by omega), w64 (by omega) (by omega)]
theorem dis (n : Int) : date_is.f n = some (decide (0 ≤ n ∧ n ≤ 109572)) := by
 unfold date_is.f
 split
 ·
  congr 1; rw [decide_eq_decide]; omega
 ·
  congr 1; symm; rw [decide_eq_false_iff_not]; omega
theorem Civil (n : Int) : Ev (fun k => date_Civil.f k n) (if 0 ≤ n ∧ n ≤ 109572 then (M.civY n, M.civM n, M.civD n, 0) else (0, 0, 0, 51)) := by
 by_cases h : 0 ≤ n ∧ n ≤ 109572
 ·
  rw [if_pos h]
  have hd2 := Ev.bind (f := fun _ (t : Int × Int × Int) => some (t.1, t.2.1, t.2.2, (0 : Int))) (civil n h.1 h.2) (Ev.now _)
  refine Ev.congr (fun k => ?_) hd2
  unfold date_Civil.f
  rw [dis]
  simp [h]
 ·
  rw [if_neg h]
  refine Ev.congr (fun k => ?_) (Ev.now _)
  unfold date_Civil.f
  rw [dis]
  simp only [Option.bind_some]
  rw [if_neg (by simpa using h)]
end Go.Proofs.YtoncignjcgjhhaaDoor.L
namespace Go.Proofs.YtoncignjcgjhhaaDoor.Q
open Go.RowKit Go.Proofs.YtoncignjcgjhhaaDoorW.PrintWords Go.Proofs.YtoncignjcgjhhaaDoorW.PrintLast Go.Proofs.YtoncignjcgjhhaaDoorW.PrintMore
attribute [local go_sem] max2_int min2_int max_two min_two max_three min_three max_four min_four   -- for this text's walks alone
def tenorref5_length.j0 : Nat → Int → Int → Bool → Option (Int)
  | 0, _, _, _ => none
  | k + 1, x0, x5, x6 => if x6 = true then (some 30) else (if x5 = 2 then ((tenorref5_Leap.f x0).bind fun t152 => (if t152 = true then (some 29) else (some 28))) else (some 31))
def tenorref5_length.f (k : Nat) (a0 : Int) (a1 : Int) : Option (Int) := if a1 = 4 then (tenorref5_length.j0 k a0 a1 (a1 == 4)) else (if a1 = 6 then (tenorref5_length.j0 k a0 a1 (a1 == 6)) else (if a1 = 9 then (tenorref5_length.j0 k a0 a1 (a1 == 9)) else (tenorref5_length.j0 k a0 a1 (a1 == 11))))
theorem tenorref5_length.mono_l : ∀ k, (∀ y0 y1 y2, LeO (tenorref5_length.j0 k y0 y1 y2) (tenorref5_length.j0 (k + 1) y0 y1 y2))
 | 0 => fun _ _ _ r h => by simp [tenorref5_length.j0] at h
 | k + 1 => by
  have ih0 := tenorref5_length.mono_l k
  ·
   intro y0 y1 y2
   unfold tenorref5_length.j0
   repeat' first
   | (with_reducible exact ih0 _ _ _)
   | (with_reducible exact LeO.refl _)
   | (with_reducible exact LeO.none _)
   | (with_reducible refine LeO.ite ?_ ?_)
   | (with_reducible refine LeO.bind ?_ (fun _ => ?_))
   | exact ih0 _ _ _
   | exact LeO.none _
   | refine LeO.ite ?_ ?_
   | refine LeO.bind ?_ (fun _ => ?_)
theorem tenorref5_length.mono : ∀ a0 a1 k, LeO (tenorref5_length.f k a0 a1) (tenorref5_length.f (k + 1) a0 a1) := by
 intro a0 a1 k
 have ih0 := tenorref5_length.mono_l k
 unfold tenorref5_length.f
 repeat' first
   | (with_reducible exact ih0 _ _ _)
   | (with_reducible exact LeO.refl _)
   | (with_reducible exact LeO.none _)
   | (with_reducible refine LeO.ite ?_ ?_)
   | (with_reducible refine LeO.bind ?_ (fun _ => ?_))
   | exact ih0 _ _ _
   | exact LeO.none _
   | refine LeO.ite ?_ ?_
   | refine LeO.bind ?_ (fun _ => ?_)
set_option maxHeartbeats 8000000 in
set_option maxRecDepth 100000 in
theorem tenorref5_length.calls (k : Nat) (a0 : Int) (a1 : Int) (r : Int) (w : World) (h : tenorref5_length.f k a0 a1 = some r) :
  Calls Tryd.prog 42 #[.int .i64 a0, .int .i64 a1] w fun e w' => e = .returned (.int .i64 r) ∧ Drawn0 w w' := by
 have H : (if a1 = 4 then (tenorref5_length.j0 k a0 a1 (a1 == 4)) else (if a1 = 6 then (tenorref5_length.j0 k a0 a1 (a1 == 6)) else (if a1 = 9 then (tenorref5_length.j0 k a0 a1 (a1 == 9)) else (tenorref5_length.j0 k a0 a1 (a1 == 11))))) = some r := h
 clear h;have HC3 := Aside0.mk H;clear H
 go_enter Tryd.func42, Tryd.ntmps42
 go_upto_if 6 with (fail)
 go_cut [6] (fun v6 wc => ∃ (kq : Nat) (x6_2 : Bool), v6 = .bool x6_2 ∧ Aside0 (tenorref5_length.j0 kq a0 a1 x6_2 = some r) ∧ Aside0 (kq ≤ k) ∧ Drawn0 w wc)
 case first =>
  have H := HC3.out;clear HC3
  by_cases c4 : a1 = 4
  ·
   rw [if_pos c4] at H
   have c4b0 : (a1 == 4) = true := beq_iff_eq.mpr c4
   have c4b1 : (a1 != 4) = false := bne_eq_false_iff_eq.mpr c4
   clear c4
   (first | rw [c4b0] | (simp only [i64_w, i32_w]; rw [c4b0]) | skip)
   have H' := Aside0.mk H;clear H
   go_wp2
   go_meet
   case rel => exact ⟨_, ((a1 == 4)), (by first | rfl | (simp; done) | (simp [*]; done)), H', ⟨by first | omega | exact Nat.le_refl _⟩, by repeat (first | exact Drawn0.refl _ | apply Drawn0.step)⟩
  ·
   rw [if_neg c4] at H
   have c4b0 : (a1 == 4) = false := beq_eq_false_iff_ne.mpr c4
   have c4b1 : (a1 != 4) = true := bne_iff_ne.mpr c4
   (first | rw [c4b0] | (simp only [i64_w, i32_w]; rw [c4b0]) | skip)
   by_cases c5 : a1 = 6
   ·
    rw [if_pos c5] at H
    have c5b0 : (a1 == 6) = true := beq_iff_eq.mpr c5
    have c5b1 : (a1 != 6) = false := bne_eq_false_iff_eq.mpr c5
    clear c5;have H' := Aside0.mk H;clear H
    go_wp2
    go_meet
    case rel => exact ⟨_, ((a1 == 6)), (by first | rfl | (simp; done) | (simp [*]; done)), H', ⟨by first | omega | exact Nat.le_refl _⟩, by repeat (first | exact Drawn0.refl _ | apply Drawn0.step)⟩
   ·
    rw [if_neg c5] at H
    have c5b0 : (a1 == 6) = false := beq_eq_false_iff_ne.mpr c5
    have c5b1 : (a1 != 6) = true := bne_iff_ne.mpr c5
    by_cases c6 : a1 = 9
    ·
     rw [if_pos c6] at H
     have c6b0 : (a1 == 9) = true := beq_iff_eq.mpr c6
     have c6b1 : (a1 != 9) = false := bne_eq_false_iff_eq.mpr c6
     clear c6;have H' := Aside0.mk H;clear H
     go_wp2
     go_meet
     case rel => exact ⟨_, ((a1 == 9)), (by first | rfl | (simp; done) | (simp [*]; done)), H', ⟨by first | omega | exact Nat.le_refl _⟩, by repeat (first | exact Drawn0.refl _ | apply Drawn0.step)⟩
    ·
     rw [if_neg c6] at H
     have c6b0 : (a1 == 9) = false := beq_eq_false_iff_ne.mpr c6
     have c6b1 : (a1 != 9) = true := bne_iff_ne.mpr c6
     have H' := Aside0.mk H;clear H
     go_wp2
     go_meet
     case rel => exact ⟨_, ((a1 == 11)), (by first | rfl | (simp; done) | (simp [*]; done)), H', ⟨by first | omega | exact Nat.le_refl _⟩, by repeat (first | exact Drawn0.refl _ | apply Drawn0.step)⟩
 case rest =>
  clear HC3
  obtain ⟨kq, x6_2, rfl, HA, HJ2, ⟨mc2, rfl⟩⟩ := hcut
  cases kq with
  | zero => exact absurd HA.out (by simp [tenorref5_length.j0])
  | succ kj2 =>
   have H := HA.out;clear HA
   simp only [tenorref5_length.j0] at H
   by_cases c7 : x6_2 = true
   ·
    subst c7
    have H1 : (some 30) = some r := by rw [if_pos rfl] at H; exact H
    clear H;have H := H1;clear H1
    obtain rfl := Option.some.inj H
    go_wp2
    go_ret
    exact ⟨by first | rfl | (simp; done) | (simp [*]; done), by repeat (first | exact Drawn0.refl _ | apply Drawn0.step)⟩
   ·
    replace c7 := Bool.eq_false_iff.mpr c7;subst c7
    have H1 : (if a1 = 2 then ((tenorref5_Leap.f a0).bind fun t152 => (if t152 = true then (some 29) else (some 28))) else (some 31)) = some r := by rw [if_neg (show ¬ (false = true) by decide)] at H; exact H
    clear H;have H := H1;clear H1
    by_cases c8 : a1 = 2
    ·
     rw [if_pos c8] at H
     have c8b0 : (a1 == 2) = true := beq_iff_eq.mpr c8
     have c8b1 : (a1 != 2) = false := bne_eq_false_iff_eq.mpr c8
     clear c8;replace H := Option.bind_eq_some_iff.mp H
     obtain ⟨t152, A90, H⟩ := H
     replace H : (if t152 = true then (some 29) else (some 28)) = some r := H
     have A9 := Aside0.mk A90;clear A90
     by_cases c10 : t152 = true
     ·
      subst c10
      have H1 : (some 29) = some r := by rw [if_pos rfl] at H; exact H
      clear H;have H := H1;clear H1
      obtain rfl := Option.some.inj H
      go_wp2_with (first | ((with_reducible refine gate_callee (f := 28) rfl ?_); refine goesL_ (some 14) rfl rfl Tryd.func28 (by kernel_rfl) rfl #[.int .i64 a0] rfl (by (try simp only [List.map_toArray, List.map_cons, List.map_nil]); first | done | rfl | (simp only [List.length_drop, List.length_take]; rfl)) ?_; (with_reducible refine (tenorref5_Leap.calls a0 true _ A9.out).mono ?_); rintro e w' ⟨rfl, ⟨nd, rfl⟩⟩; refine ⟨_, rfl, ?_⟩))
      go_ret
      exact ⟨by first | rfl | (simp; done) | (simp [*]; done), by repeat (first | exact Drawn0.refl _ | apply Drawn0.step)⟩
     ·
      replace c10 := Bool.eq_false_iff.mpr c10;subst c10
      have H1 : (some 28) = some r := by rw [if_neg (show ¬ (false = true) by decide)] at H; exact H
      clear H;have H := H1;clear H1
      obtain rfl := Option.some.inj H
      go_wp2_with (first | ((with_reducible refine gate_callee (f := 28) rfl ?_); refine goesL_ (some 14) rfl rfl Tryd.func28 (by kernel_rfl) rfl #[.int .i64 a0] rfl (by (try simp only [List.map_toArray, List.map_cons, List.map_nil]); first | done | rfl | (simp only [List.length_drop, List.length_take]; rfl)) ?_; (with_reducible refine (tenorref5_Leap.calls a0 false _ A9.out).mono ?_); rintro e w' ⟨rfl, ⟨nd, rfl⟩⟩; refine ⟨_, rfl, ?_⟩))
      go_ret
      exact ⟨by first | rfl | (simp; done) | (simp [*]; done), by repeat (first | exact Drawn0.refl _ | apply Drawn0.step)⟩
    ·
     rw [if_neg c8] at H
     have c8b0 : (a1 == 2) = false := beq_eq_false_iff_ne.mpr c8
     have c8b1 : (a1 != 2) = true := bne_iff_ne.mpr c8
     obtain rfl := Option.some.inj H
     go_wp2
     go_ret
     exact ⟨by first | rfl | (simp; done) | (simp [*]; done), by repeat (first | exact Drawn0.refl _ | apply Drawn0.step)⟩
def tenorref5_Length.f (k : Nat) (a0 : Int) (a1 : Int) : Option (Int × Int) := if a0 < 1900 then (some (0, 50)) else (if a0 > 2199 then (some (0, 50)) else (if a1 < 1 then (some (0, 50)) else (if a1 > 12 then (some (0, 50)) else ((tenorref5_length.f k a0 a1).bind fun t153 => (some (t153, 0))))))
theorem tenorref5_Length.mono : ∀ a0 a1 k, LeO (tenorref5_Length.f k a0 a1) (tenorref5_Length.f (k + 1) a0 a1) := by
 intro a0 a1 k
 unfold tenorref5_Length.f
 repeat' first
   | (with_reducible exact tenorref5_length.mono _ _ _)
   | (with_reducible exact LeO.refl _)
   | (with_reducible exact LeO.none _)
   | (with_reducible refine LeO.ite ?_ ?_)
   | (with_reducible refine LeO.bind ?_ (fun _ => ?_))
   | exact tenorref5_length.mono _ _ _
   | exact LeO.none _
   | refine LeO.ite ?_ ?_
   | refine LeO.bind ?_ (fun _ => ?_)
set_option maxHeartbeats 8000000 in
set_option maxRecDepth 100000 in
theorem tenorref5_Length.calls (k : Nat) (a0 : Int) (a1 : Int) (r1 : Int) (r2 : Int) (w : World) (h : tenorref5_Length.f k a0 a1 = some (r1, r2)) :
  Calls Tryd.prog 20 #[.int .i64 a0, .int .i64 a1] w fun e w' => e = .returned (.tuple #[.int .i64 r1, .int .i64 r2]) ∧ Drawn0 w w' := by
 have H : (if a0 < 1900 then (some (0, 50)) else (if a0 > 2199 then (some (0, 50)) else (if a1 < 1 then (some (0, 50)) else (if a1 > 12 then (some (0, 50)) else ((tenorref5_length.f k a0 a1).bind fun t153 => (some (t153, 0))))))) = some (r1, r2) := h
 clear h
 by_cases c3 : a0 < 1900
 ·
  rw [if_pos c3] at H
  have c3b0 : decide (a0 < 1900) = true := decide_eq_true c3
  clear c3
  simp only [Option.some.injEq, Prod.mk.injEq] at H
  obtain ⟨rfl, rfl⟩ := H
  go_enter Tryd.func20, Tryd.ntmps20
  go_wp2
  go_ret2
  exact ⟨by first | rfl | (simp; done) | (simp [*]; done), by repeat (first | exact Drawn0.refl _ | apply Drawn0.step)⟩
 ·
  rw [if_neg c3] at H
  have c3b0 : decide (a0 < 1900) = false := decide_eq_false c3
  clear c3
  by_cases c4 : a0 > 2199
  ·
   rw [if_pos c4] at H
   have c4b0 : decide (2199 < a0) = true := decide_eq_true c4
   clear c4
   simp only [Option.some.injEq, Prod.mk.injEq] at H
   obtain ⟨rfl, rfl⟩ := H
   go_enter Tryd.func20, Tryd.ntmps20
   go_wp2
   go_ret2
   exact ⟨by first | rfl | (simp; done) | (simp [*]; done), by repeat (first | exact Drawn0.refl _ | apply Drawn0.step)⟩
  ·
   rw [if_neg c4] at H
   have c4b0 : decide (2199 < a0) = false := decide_eq_false c4
   clear c4
   by_cases c5 : a1 < 1
   ·
    rw [if_pos c5] at H
    have c5b0 : decide (a1 < 1) = true := decide_eq_true c5
    clear c5
    simp only [Option.some.injEq, Prod.mk.injEq] at H
    obtain ⟨rfl, rfl⟩ := H
    go_enter Tryd.func20, Tryd.ntmps20
    go_wp2
    go_ret2
    exact ⟨by first | rfl | (simp; done) | (simp [*]; done), by repeat (first | exact Drawn0.refl _ | apply Drawn0.step)⟩
   ·
    rw [if_neg c5] at H
    have c5b0 : decide (a1 < 1) = false := decide_eq_false c5
    clear c5
    by_cases c6 : a1 > 12
    ·
     rw [if_pos c6] at H
     have c6b0 : decide (12 < a1) = true := decide_eq_true c6
     clear c6
     simp only [Option.some.injEq, Prod.mk.injEq] at H
     obtain ⟨rfl, rfl⟩ := H
     go_enter Tryd.func20, Tryd.ntmps20
     go_wp2
     go_ret2
     exact ⟨by first | rfl | (simp; done) | (simp [*]; done), by repeat (first | exact Drawn0.refl _ | apply Drawn0.step)⟩
    ·
     rw [if_neg c6] at H
     have c6b0 : decide (12 < a1) = false := decide_eq_false c6
     clear c6;replace H := Option.bind_eq_some_iff.mp H
     obtain ⟨t153, A70, H⟩ := H
     replace H : (some (t153, 0)) = some (r1, r2) := H
     have A7 := Aside0.mk A70;clear A70
     simp only [Option.some.injEq, Prod.mk.injEq] at H
     obtain ⟨rfl, rfl⟩ := H
     go_enter Tryd.func20, Tryd.ntmps20
     go_wp2_with (first | ((with_reducible refine gate_callee (f := 42) rfl ?_); refine goesL_ (some 22) rfl rfl Tryd.func42 (by kernel_rfl) rfl #[.int .i64 a0, .int .i64 a1] rfl (by (try simp only [List.map_toArray, List.map_cons, List.map_nil]); first | done | rfl | (simp only [List.length_drop, List.length_take]; rfl)) ?_; (with_reducible refine (tenorref5_length.calls k a0 a1 t153 _ A7.out).mono ?_); rintro e w' ⟨rfl, ⟨nd, rfl⟩⟩; refine ⟨_, rfl, ?_⟩))
     go_ret2
     exact ⟨by first | rfl | (simp; done) | (simp [*]; done), by repeat (first | exact Drawn0.refl _ | apply Drawn0.step)⟩
end Go.Proofs.YtoncignjcgjhhaaDoor.Q
namespace Go.Proofs.YtoncignjcgjhhaaDoor.Q
open Go.RowKit Go.Proofs.YtoncignjcgjhhaaDoorW.PrintWords Go.Proofs.YtoncignjcgjhhaaDoorW.PrintLast Go.Proofs.YtoncignjcgjhhaaDoorW.PrintMore
attribute [local go_sem] max2_int min2_int max_two min_two max_three min_three max_four min_four   -- for this text's walks alone
mutual
def tenorref5_Civil.j0 : Nat → Int → Bool → Option (Int × Int × Int × Int)
  | 0, _, _ => none
  | k + 1, x0, x12 => if x12 = true then (some (0, 0, 0, 51)) else (tenorref5_Civil.l0 k x0 1900)
def tenorref5_Civil.j2 : Nat → Int → Int → Option (Int × Int × Int × Int)
  | 0, _, _ => none
  | k + 1, x0, x4 => tenorref5_Civil.l1 k x0 x4 1
def tenorref5_Civil.l1 : Nat → Int → Int → Int → Option (Int × Int × Int × Int)
  | 0, _, _, _ => none
  | k + 1, x0, x4, x6 => (tenorref5_length.f k x4 x6).bind fun t168 => (if x0 ≥ t168 then ((tenorref5_length.f k x4 x6).bind fun t169 => (tenorref5_Civil.l1 k (wrap64 (x0 - t169)) x4 (wrap64 (x6 + 1)))) else (some (x4, x6, wrap64 (x0 + 1), 0)))
def tenorref5_Civil.l0 : Nat → Int → Int → Option (Int × Int × Int × Int)
  | 0, _, _ => none
  | k + 1, x0, x4 => (tenorref5_Leap.f x4).bind fun t167 => (if t167 = true then (if x0 < 366 then (tenorref5_Civil.j2 k x0 x4) else (tenorref5_Civil.l0 k (wrap64 (x0 - 366)) (wrap64 (x4 + 1)))) else (if x0 < 365 then (tenorref5_Civil.j2 k x0 x4) else (tenorref5_Civil.l0 k (wrap64 (x0 - 365)) (wrap64 (x4 + 1)))))
end
def tenorref5_Civil.f (k : Nat) (a0 : Int) : Option (Int × Int × Int × Int) := if a0 < 0 then (tenorref5_Civil.j0 k a0 true) else (tenorref5_Civil.j0 k a0 (decide (a0 > 109572)))
theorem tenorref5_Civil.mono_l : ∀ k, (∀ y0 y1, LeO (tenorref5_Civil.j0 k y0 y1) (tenorref5_Civil.j0 (k + 1) y0 y1)) ∧ (∀ y0 y1, LeO (tenorref5_Civil.j2 k y0 y1) (tenorref5_Civil.j2 (k + 1) y0 y1)) ∧ (∀ y0 y1 y2, LeO (tenorref5_Civil.l1 k y0 y1 y2) (tenorref5_Civil.l1 (k + 1) y0 y1 y2)) ∧ (∀ y0 y1, LeO (tenorref5_Civil.l0 k y0 y1) (tenorref5_Civil.l0 (k + 1) y0 y1))
 | 0 => ⟨fun _ _ r h => by simp [tenorref5_Civil.j0] at h, fun _ _ r h => by simp [tenorref5_Civil.j2] at h, fun _ _ _ r h => by simp [tenorref5_Civil.l1] at h, fun _ _ r h => by simp [tenorref5_Civil.l0] at h⟩
 | k + 1 => by
  obtain ⟨ih0, ih1, ih2, ih3⟩ := tenorref5_Civil.mono_l k
  refine ⟨?_, ?_, ?_, ?_⟩
  ·
   intro y0 y1
   unfold tenorref5_Civil.j0
   repeat' first
   | (with_reducible exact ih0 _ _)
   | (with_reducible exact ih1 _ _)
   | (with_reducible exact ih2 _ _ _)
   | (with_reducible exact ih3 _ _)
   | (with_reducible exact tenorref5_length.mono _ _ _)
   | (with_reducible exact LeO.refl _)
   | (with_reducible exact LeO.none _)
   | (with_reducible refine LeO.ite ?_ ?_)
   | (with_reducible refine LeO.bind ?_ (fun _ => ?_))
   | exact ih0 _ _
   | exact ih1 _ _
   | exact ih2 _ _ _
   | exact ih3 _ _
   | exact tenorref5_length.mono _ _ _
   | exact LeO.none _
   | refine LeO.ite ?_ ?_
   | refine LeO.bind ?_ (fun _ => ?_)
  ·
   intro y0 y1
   unfold tenorref5_Civil.j2
   repeat' first
   | (with_reducible exact ih0 _ _)
   | (with_reducible exact ih1 _ _)
   | (with_reducible exact ih2 _ _ _)
   | (with_reducible exact ih3 _ _)
   | (with_reducible exact tenorref5_length.mono _ _ _)
   | (with_reducible exact LeO.refl _)
   | (with_reducible exact LeO.none _)
   | (with_reducible refine LeO.ite ?_ ?_)
   | (with_reducible refine LeO.bind ?_ (fun _ => ?_))
   | exact ih0 _ _
   | exact ih1 _ _
   | exact ih2 _ _ _
   | exact ih3 _ _
   | exact tenorref5_length.mono _ _ _
   | exact LeO.none _
   | refine LeO.ite ?_ ?_
   | refine LeO.bind ?_ (fun _ => ?_)
  ·
   intro y0 y1 y2
   unfold tenorref5_Civil.l1
   repeat' first
   | (with_reducible exact ih0 _ _)
   | (with_reducible exact ih1 _ _)
   | (with_reducible exact ih2 _ _ _)
   | (with_reducible exact ih3 _ _)
   | (with_reducible exact tenorref5_length.mono _ _ _)
   | (with_reducible exact LeO.refl _)
   | (with_reducible exact LeO.none _)
   | (with_reducible refine LeO.ite ?_ ?_)
   | (with_reducible refine LeO.bind ?_ (fun _ => ?_))
   | exact ih0 _ _
   | exact ih1 _ _
   | exact ih2 _ _ _
   | exact ih3 _ _
   | exact tenorref5_length.mono _ _ _
   | exact LeO.none _
   | refine LeO.ite ?_ ?_
   | refine LeO.bind ?_ (fun _ => ?_)
  ·
   intro y0 y1
   unfold tenorref5_Civil.l0
   repeat' first
   | (with_reducible exact ih0 _ _)
   | (with_reducible exact ih1 _ _)
   | (with_reducible exact ih2 _ _ _)
   | (with_reducible exact ih3 _ _)
   | (with_reducible exact tenorref5_length.mono _ _ _)
   | (with_reducible exact LeO.refl _)
   | (with_reducible exact LeO.none _)
   | (with_reducible refine LeO.ite ?_ ?_)
   | (with_reducible refine LeO.bind ?_ (fun _ => ?_))
   | exact ih0 _ _
   | exact ih1 _ _
   | exact ih2 _ _ _
   | exact ih3 _ _
   | exact tenorref5_length.mono _ _ _
   | exact LeO.none _
   | refine LeO.ite ?_ ?_
   | refine LeO.bind ?_ (fun _ => ?_)
theorem tenorref5_Civil.mono : ∀ a0 k, LeO (tenorref5_Civil.f k a0) (tenorref5_Civil.f (k + 1) a0) := by
 intro a0 k
 obtain ⟨ih0, ih1, ih2, ih3⟩ := tenorref5_Civil.mono_l k
 unfold tenorref5_Civil.f
 repeat' first
   | (with_reducible exact ih0 _ _)
   | (with_reducible exact ih1 _ _)
   | (with_reducible exact ih2 _ _ _)
   | (with_reducible exact ih3 _ _)
   | (with_reducible exact tenorref5_length.mono _ _ _)
   | (with_reducible exact LeO.refl _)
   | (with_reducible exact LeO.none _)
   | (with_reducible refine LeO.ite ?_ ?_)
   | (with_reducible refine LeO.bind ?_ (fun _ => ?_))
   | exact ih0 _ _
   | exact ih1 _ _
   | exact ih2 _ _ _
   | exact ih3 _ _
   | exact tenorref5_length.mono _ _ _
   | exact LeO.none _
   | refine LeO.ite ?_ ?_
   | refine LeO.bind ?_ (fun _ => ?_)
set_option maxHeartbeats 8000000 in
set_option maxRecDepth 100000 in
theorem tenorref5_Civil.calls (k : Nat) (a0 : Int) (r1 : Int) (r2 : Int) (r3 : Int) (r4 : Int) (w : World) (h : tenorref5_Civil.f k a0 = some (r1, r2, r3, r4)) :
  Calls Tryd.prog 24 #[.int .i64 a0] w fun e w' => e = .returned (.tuple #[.agg #[.int .i64 r1, .int .i64 r2, .int .i64 r3], .int .i64 r4]) ∧ Below w.heap.size w w' := by
 have hu43 := Tryd.underlying43
 have HB := Aside0.mk (Below.refl w.heap.size w)
 have H : (if a0 < 0 then (tenorref5_Civil.j0 k a0 true) else (tenorref5_Civil.j0 k a0 (decide (a0 > 109572)))) = some (r1, r2, r3, r4) := h
 clear h;have HC2 := Aside0.mk H;clear H
 go_enter Tryd.func24, Tryd.ntmps24
 go_upto_region 1 with (first | ((with_reducible refine gate_dst (N := 2) rfl ?_); refine box_event ?hg (N := 2) ?hd (cs := #[.int .i64 0, .int .i64 0, .int .i64 0]) (t := 43) ?hr ?_; (case hd => rfl); (case hg => rfl); (case hr => first | (go_simp; done) | (go_simp; rfl)); intro gb166 hg w3 hbox hb; have n0_ := Aside0.mk (below_step (by repeat (first | (with_reducible first | exact HB.out | apply below_alloc | apply pw_below_drewN | apply below_drew1) | exact HB.out)) hb); have n1_ := Aside0.mk (hbox); have n2_ := Aside0.mk ((by rw [hg]; exact (below_size (by repeat (first | (with_reducible first | exact HB.out | apply below_alloc | apply pw_below_drewN | apply below_drew1) | exact HB.out))) : w.heap.size ≤ gb166)); have n3_ := Aside0.mk ((by rw [hg]; exact (below_size (by repeat (first | (with_reducible first | exact HB.out | apply below_alloc | apply pw_below_drewN | apply below_drew1) | exact HB.out))) : w.heap.size ≤ gb166)); clear HB; have HB := n0_; have BK166 := n1_; have GW166 := n2_; have GE166 := n3_; clear n0_ n1_ n2_ n3_; clear hb hbox hg))
 (try simp only [Act.put, List.setIfInBounds_toArray, List.set_cons_zero, List.set_cons_succ])
 go_cut [12] (fun v12 wc => ∃ (kq : Nat) (x12_1 : Bool), v12 = .bool x12_1 ∧ Aside0 (tenorref5_Civil.j0 kq a0 x12_1 = some (r1, r2, r3, r4)) ∧ Aside0 (kq ≤ k) ∧ Aside0 (wc.heap[gb166]? = some (.cells #[.int .i64 0, .int .i64 0, .int .i64 0] 43 (0, 0))) ∧ Aside0 (Below w.heap.size w wc))
 case first =>
  have H := HC2.out;clear HC2
  by_cases c4 : a0 < 0
  ·
   rw [if_pos c4] at H
   have c4b0 : decide (a0 < 0) = true := decide_eq_true c4
   clear c4
   (first | rw [c4b0] | (simp only [i64_w, i32_w]; rw [c4b0]) | skip)
   have H' := Aside0.mk H;clear H
   go_wp2
   go_meet
   case rel => exact ⟨_, (true), (by first | rfl | (simp; done) | (simp [*]; done)), H', ⟨by first | omega | exact Nat.le_refl _⟩, ⟨by (with_reducible repeat (first | refine blk_drewN ?_ _ | refine blk_drew ?_ | refine blk_alloc ?_ _)); exact BK166.out⟩, ⟨by repeat (first | (with_reducible first | exact HB.out | apply below_alloc | apply pw_below_drewN | apply below_drew1 | refine below_set ?_ GE166.out) | exact HB.out)⟩⟩
  ·
   rw [if_neg c4] at H
   have c4b0 : decide (a0 < 0) = false := decide_eq_false c4
   clear c4
   (first | rw [c4b0] | (simp only [i64_w, i32_w]; rw [c4b0]) | skip)
   have H' := Aside0.mk H;clear H
   go_wp2
   go_meet
   case rel => exact ⟨_, (decide (a0 > 109572)), (by first | rfl | (simp; done) | (simp [*]; done)), H', ⟨by first | omega | exact Nat.le_refl _⟩, ⟨by (with_reducible repeat (first | refine blk_drewN ?_ _ | refine blk_drew ?_ | refine blk_alloc ?_ _)); exact BK166.out⟩, ⟨by repeat (first | (with_reducible first | exact HB.out | apply below_alloc | apply pw_below_drewN | apply below_drew1 | refine below_set ?_ GE166.out) | exact HB.out)⟩⟩
 case rest =>
  clear HC2
  obtain ⟨kq, x12_1, rfl, HA, HJ1, BK166, HB⟩ := hcut
  cases kq with
  | zero => exact absurd HA.out (by simp [tenorref5_Civil.j0])
  | succ kj1 =>
   have H := HA.out;clear HA
   simp only [tenorref5_Civil.j0] at H
   by_cases c5 : x12_1 = true
   ·
    subst c5
    have H1 : (some (0, 0, 0, 51)) = some (r1, r2, r3, r4) := by rw [if_pos rfl] at H; exact H
    clear H;have H := H1;clear H1
    simp only [Option.some.injEq, Prod.mk.injEq] at H
    obtain ⟨rfl, rfl, rfl, rfl⟩ := H
    have hcz6_0 : wc.cell? ⟨gb166, 0, none⟩ = some (.int .i64 0) := (blk_cell BK166.out 0).trans rfl
    have hcz6_1 : wc.cell? ⟨gb166, 1, none⟩ = some (.int .i64 0) := (blk_cell BK166.out 1).trans rfl
    have hcz6_2 : wc.cell? ⟨gb166, 2, none⟩ = some (.int .i64 0) := (blk_cell BK166.out 2).trans rfl
    have hfz6_0 := blk_frozen BK166.out 0;have hfz6_1 := blk_frozen BK166.out 1;have hfz6_2 := blk_frozen BK166.out 2
    go_wp2
    refine bodyPost_ret (results_ct rfl _ _ gb166 43 #[.int .i64 0, .int .i64 0, .int .i64 0] (0, 0) _ rfl (by (with_reducible repeat (first | refine blk_drewN ?_ _ | refine blk_drew ?_ | refine blk_alloc ?_ _)); refine blk_put (cs := #[.int .i64 0, .int .i64 0, .int .i64 0]) ?_ 2 _ rfl; (with_reducible repeat (first | refine blk_drewN ?_ _ | refine blk_drew ?_ | refine blk_alloc ?_ _)); refine blk_put (cs := #[.int .i64 0, .int .i64 0, .int .i64 0]) ?_ 1 _ rfl; (with_reducible repeat (first | refine blk_drewN ?_ _ | refine blk_drew ?_ | refine blk_alloc ?_ _)); refine blk_put (cs := #[.int .i64 0, .int .i64 0, .int .i64 0]) ?_ 0 _ rfl; (with_reducible repeat (first | refine blk_drewN ?_ _ | refine blk_drew ?_ | refine blk_alloc ?_ _)); exact BK166.out) Tryd.underlying43 rfl (by kernel_rfl)) rfl ?_
    exact ⟨by first | rfl | (simp [errW_none, errW_some] <;> rfl) | (simp [*, errW_none, errW_some] <;> rfl), by repeat (first | (with_reducible first | exact HB.out | apply below_alloc | apply pw_below_drewN | apply below_drew1 | refine below_set ?_ GE166.out) | exact HB.out)⟩
   ·
    replace c5 := Bool.eq_false_iff.mpr c5;subst c5
    have H1 : (tenorref5_Civil.l0 kj1 a0 1900) = some (r1, r2, r3, r4) := by rw [if_neg (show ¬ (false = true) by decide)] at H; exact H
    clear H;have H := H1;clear H1;have HC7 := Aside0.mk H;clear H
    go_upto_block 0 with (fail)
    go_cut [0, 4] (fun v0 v4 wc => ∃ (kq : Nat) (x0_6 : Int) (x4_6 : Int), v0 = .int .i64 x0_6 ∧ v4 = .int .i64 x4_6 ∧ Aside0 (tenorref5_Civil.j2 kq x0_6 x4_6 = some (r1, r2, r3, r4)) ∧ Aside0 (kq ≤ kj1) ∧ Aside0 (wc.heap[gb166]? = some (.cells #[.int .i64 0, .int .i64 0, .int .i64 0] 43 (0, 0))) ∧ Aside0 (Below w.heap.size w wc))
    case first =>
     have H := HC7.out;clear HC7;have H' := Aside0.mk H;clear H
     go_wp2
     go_loopg [0, 4] kj1 (fun kq v0 v4 w' => ∃ (x0_2 : Int) (x4_2 : Int), v0 = .int .i64 x0_2 ∧ v4 = .int .i64 x4_2 ∧ Aside0 (tenorref5_Civil.l0 kq x0_2 x4_2 = some (r1, r2, r3, r4)) ∧ Aside0 (kq ≤ kj1) ∧ Aside0 (w'.heap[gb166]? = some (.cells #[.int .i64 0, .int .i64 0, .int .i64 0] 43 (0, 0))) ∧ Aside0 (Below w.heap.size w w'))
     case atStart => exact ⟨(a0), (1900), (by first | rfl | (simp; done) | (simp [*]; done)), (by first | rfl | (simp; done) | (simp [*]; done)), H', ⟨Nat.le_refl _⟩, ⟨by (with_reducible repeat (first | refine blk_drewN ?_ _ | refine blk_drew ?_ | refine blk_alloc ?_ _)); exact BK166.out⟩, ⟨by repeat (first | (with_reducible first | exact HB.out | apply below_alloc | apply pw_below_drewN | apply below_drew1 | refine below_set ?_ GE166.out) | exact HB.out)⟩⟩
     case round =>
      clear H'
      obtain ⟨x0_2, x4_2, rfl, rfl, HA, HK2, BK166, HB⟩ := hrel
      cases gk with
      | zero => exact absurd HA.out (by simp [tenorref5_Civil.l0])
      | succ k2 =>
       have H := HA.out;clear HA
       simp only [tenorref5_Civil.l0] at H
       replace H := Option.bind_eq_some_iff.mp H
       obtain ⟨t167, A80, H⟩ := H
       replace H : (if t167 = true then (if x0_2 < 366 then (tenorref5_Civil.j2 k2 x0_2 x4_2) else (tenorref5_Civil.l0 k2 (wrap64 (x0_2 - 366)) (wrap64 (x4_2 + 1)))) else (if x0_2 < 365 then (tenorref5_Civil.j2 k2 x0_2 x4_2) else (tenorref5_Civil.l0 k2 (wrap64 (x0_2 - 365)) (wrap64 (x4_2 + 1))))) = some (r1, r2, r3, r4) := H
       have A8 := Aside0.mk A80;clear A80
       by_cases c9 : t167 = true
       ·
        subst c9
        have H1 : (if x0_2 < 366 then (tenorref5_Civil.j2 k2 x0_2 x4_2) else (tenorref5_Civil.l0 k2 (wrap64 (x0_2 - 366)) (wrap64 (x4_2 + 1)))) = some (r1, r2, r3, r4) := by rw [if_pos rfl] at H; exact H
        clear H;have H := H1;clear H1
        by_cases c10 : x0_2 < 366
        ·
         rw [if_pos c10] at H
         have c10b0 : decide (x0_2 < 366) = true := decide_eq_true c10
         clear c10
         (first | rw [c10b0] | (simp only [i64_w, i32_w]; rw [c10b0]) | skip)
         have H' := Aside0.mk H;clear H
         go_wp2_with (first | ((with_reducible refine gate_callee (f := 28) rfl ?_); refine goesL_ (some 15) rfl rfl Tryd.func28 (by kernel_rfl) rfl #[.int .i64 x4_2] rfl (by (try simp only [List.map_toArray, List.map_cons, List.map_nil]); first | done | rfl | (simp only [List.length_drop, List.length_take]; rfl)) ?_; (with_reducible refine (tenorref5_Leap.calls x4_2 true _ A8.out).mono ?_); rintro e w' ⟨rfl, ⟨nd, rfl⟩⟩; refine ⟨_, rfl, ?_⟩))
         go_meet
         case rel => exact ⟨_, (x0_2), (x4_2), (by first | rfl | (simp; done) | (simp [*]; done)), (by first | rfl | (simp; done) | (simp [*]; done)), H', ⟨by have := HJ1.out; have := HK2.out; first | omega | exact Nat.le_refl _⟩, ⟨by (with_reducible repeat (first | refine blk_drewN ?_ _ | refine blk_drew ?_ | refine blk_alloc ?_ _)); exact BK166.out⟩, ⟨by repeat (first | (with_reducible first | exact HB.out | apply below_alloc | apply pw_below_drewN | apply below_drew1 | refine below_set ?_ GE166.out) | exact HB.out)⟩⟩
        ·
         rw [if_neg c10] at H
         have c10b0 : decide (x0_2 < 366) = false := decide_eq_false c10
         clear c10
         (first | rw [c10b0] | (simp only [i64_w, i32_w]; rw [c10b0]) | skip)
         have H' := Aside0.mk H;clear H
         go_wp2_with (first | ((with_reducible refine gate_callee (f := 28) rfl ?_); refine goesL_ (some 15) rfl rfl Tryd.func28 (by kernel_rfl) rfl #[.int .i64 x4_2] rfl (by (try simp only [List.map_toArray, List.map_cons, List.map_nil]); first | done | rfl | (simp only [List.length_drop, List.length_take]; rfl)) ?_; (with_reducible refine (tenorref5_Leap.calls x4_2 true _ A8.out).mono ?_); rintro e w' ⟨rfl, ⟨nd, rfl⟩⟩; refine ⟨_, rfl, ?_⟩))
         go_roundg k2
         case measure => have := HJ1.out; have := HK2.out; omega
         case rel => exact ⟨(wrap64 (x0_2 - 366)), (wrap64 (x4_2 + 1)), (by first | rfl | (simp; done) | (simp [*]; done)), (by first | rfl | (simp; done) | (simp [*]; done)), H', ⟨by have := HJ1.out; have := HK2.out; omega⟩, ⟨by (with_reducible repeat (first | refine blk_drewN ?_ _ | refine blk_drew ?_ | refine blk_alloc ?_ _)); exact BK166.out⟩, ⟨by repeat (first | (with_reducible first | exact HB.out | apply below_alloc | apply pw_below_drewN | apply below_drew1 | refine below_set ?_ GE166.out) | exact HB.out)⟩⟩
       ·
        replace c9 := Bool.eq_false_iff.mpr c9;subst c9
        have H1 : (if x0_2 < 365 then (tenorref5_Civil.j2 k2 x0_2 x4_2) else (tenorref5_Civil.l0 k2 (wrap64 (x0_2 - 365)) (wrap64 (x4_2 + 1)))) = some (r1, r2, r3, r4) := by rw [if_neg (show ¬ (false = true) by decide)] at H; exact H
        clear H;have H := H1;clear H1
        by_cases c11 : x0_2 < 365
        ·
         rw [if_pos c11] at H
         have c11b0 : decide (x0_2 < 365) = true := decide_eq_true c11
         clear c11;have H' := Aside0.mk H;clear H
         go_wp2_with (first | ((with_reducible refine gate_callee (f := 28) rfl ?_); refine goesL_ (some 15) rfl rfl Tryd.func28 (by kernel_rfl) rfl #[.int .i64 x4_2] rfl (by (try simp only [List.map_toArray, List.map_cons, List.map_nil]); first | done | rfl | (simp only [List.length_drop, List.length_take]; rfl)) ?_; (with_reducible refine (tenorref5_Leap.calls x4_2 false _ A8.out).mono ?_); rintro e w' ⟨rfl, ⟨nd, rfl⟩⟩; refine ⟨_, rfl, ?_⟩))
         go_meet
         case rel => exact ⟨_, (x0_2), (x4_2), (by first | rfl | (simp; done) | (simp [*]; done)), (by first | rfl | (simp; done) | (simp [*]; done)), H', ⟨by have := HJ1.out; have := HK2.out; first | omega | exact Nat.le_refl _⟩, ⟨by (with_reducible repeat (first | refine blk_drewN ?_ _ | refine blk_drew ?_ | refine blk_alloc ?_ _)); exact BK166.out⟩, ⟨by repeat (first | (with_reducible first | exact HB.out | apply below_alloc | apply pw_below_drewN | apply below_drew1 | refine below_set ?_ GE166.out) | exact HB.out)⟩⟩
        ·
         rw [if_neg c11] at H
         have c11b0 : decide (x0_2 < 365) = false := decide_eq_false c11
         clear c11;have H' := Aside0.mk H;clear H
         go_wp2_with (first | ((with_reducible refine gate_callee (f := 28) rfl ?_); refine goesL_ (some 15) rfl rfl Tryd.func28 (by kernel_rfl) rfl #[.int .i64 x4_2] rfl (by (try simp only [List.map_toArray, List.map_cons, List.map_nil]); first | done | rfl | (simp only [List.length_drop, List.length_take]; rfl)) ?_; (with_reducible refine (tenorref5_Leap.calls x4_2 false _ A8.out).mono ?_); rintro e w' ⟨rfl, ⟨nd, rfl⟩⟩; refine ⟨_, rfl, ?_⟩))
         go_roundg k2
         case measure => have := HJ1.out; have := HK2.out; omega
         case rel => exact ⟨(wrap64 (x0_2 - 365)), (wrap64 (x4_2 + 1)), (by first | rfl | (simp; done) | (simp [*]; done)), (by first | rfl | (simp; done) | (simp [*]; done)), H', ⟨by have := HJ1.out; have := HK2.out; omega⟩, ⟨by (with_reducible repeat (first | refine blk_drewN ?_ _ | refine blk_drew ?_ | refine blk_alloc ?_ _)); exact BK166.out⟩, ⟨by repeat (first | (with_reducible first | exact HB.out | apply below_alloc | apply pw_below_drewN | apply below_drew1 | refine below_set ?_ GE166.out) | exact HB.out)⟩⟩
    case rest =>
     clear HC7
     obtain ⟨kq, x0_6, x4_6, rfl, rfl, HA, HJ6, BK166, HB⟩ := hcut
     cases kq with
     | zero => exact absurd HA.out (by simp [tenorref5_Civil.j2])
     | succ kj6 =>
      have H := HA.out;clear HA
      simp only [tenorref5_Civil.j2] at H
      have H' := Aside0.mk H;clear H
      go_wp2
      go_loopg [0, 6] kj6 (fun kq v0 v6 w' => ∃ (x0_3 : Int) (x6_3 : Int), v0 = .int .i64 x0_3 ∧ v6 = .int .i64 x6_3 ∧ Aside0 (tenorref5_Civil.l1 kq x0_3 x4_6 x6_3 = some (r1, r2, r3, r4)) ∧ Aside0 (kq ≤ kj6) ∧ Aside0 (w'.heap[gb166]? = some (.cells #[.int .i64 0, .int .i64 0, .int .i64 0] 43 (0, 0))) ∧ Aside0 (Below w.heap.size w w'))
      case atStart => exact ⟨(x0_6), (1), (by first | rfl | (simp; done) | (simp [*]; done)), (by first | rfl | (simp; done) | (simp [*]; done)), H', ⟨Nat.le_refl _⟩, ⟨by (with_reducible repeat (first | refine blk_drewN ?_ _ | refine blk_drew ?_ | refine blk_alloc ?_ _)); exact BK166.out⟩, ⟨by repeat (first | (with_reducible first | exact HB.out | apply below_alloc | apply pw_below_drewN | apply below_drew1 | refine below_set ?_ GE166.out) | exact HB.out)⟩⟩
      case round =>
       clear H'
       obtain ⟨x0_3, x6_3, rfl, rfl, HA, HK3, BK166, HB⟩ := hrel
       cases gk with
       | zero => exact absurd HA.out (by simp [tenorref5_Civil.l1])
       | succ k3 =>
        have H := HA.out;clear HA
        simp only [tenorref5_Civil.l1] at H
        replace H := Option.bind_eq_some_iff.mp H
        obtain ⟨t168, A120, H⟩ := H
        replace H : (if x0_3 ≥ t168 then ((tenorref5_length.f k3 x4_6 x6_3).bind fun t169 => (tenorref5_Civil.l1 k3 (wrap64 (x0_3 - t169)) x4_6 (wrap64 (x6_3 + 1)))) else (some (x4_6, x6_3, wrap64 (x0_3 + 1), 0))) = some (r1, r2, r3, r4) := H
        have A12 := Aside0.mk A120;clear A120
        by_cases c13 : x0_3 ≥ t168
        ·
         rw [if_pos c13] at H
         have c13b0 : decide (t168 ≤ x0_3) = true := decide_eq_true c13
         clear c13;replace H := Option.bind_eq_some_iff.mp H
         obtain ⟨t169, A140, H⟩ := H
         replace H : (tenorref5_Civil.l1 k3 (wrap64 (x0_3 - t169)) x4_6 (wrap64 (x6_3 + 1))) = some (r1, r2, r3, r4) := H
         have A14 := Aside0.mk A140;clear A140;have H' := Aside0.mk H;clear H
         go_wp2_with (first | ((with_reducible refine gate_callee (f := 42) rfl ?_); refine goesL_ (some 27) rfl rfl Tryd.func42 (by kernel_rfl) rfl #[.int .i64 x4_6, .int .i64 x6_3] rfl (by (try simp only [List.map_toArray, List.map_cons, List.map_nil]); first | done | rfl | (simp only [List.length_drop, List.length_take]; rfl)) ?_; (with_reducible refine (tenorref5_length.calls k3 x4_6 x6_3 t168 _ A12.out).mono ?_); rintro e w' ⟨rfl, ⟨nd, rfl⟩⟩; refine ⟨_, rfl, ?_⟩) | ((with_reducible refine gate_callee (f := 42) rfl ?_); refine goesL_ (some 32) rfl rfl Tryd.func42 (by kernel_rfl) rfl #[.int .i64 x4_6, .int .i64 x6_3] rfl (by (try simp only [List.map_toArray, List.map_cons, List.map_nil]); first | done | rfl | (simp only [List.length_drop, List.length_take]; rfl)) ?_; (with_reducible refine (tenorref5_length.calls k3 x4_6 x6_3 t169 _ A14.out).mono ?_); rintro e w' ⟨rfl, ⟨nd, rfl⟩⟩; refine ⟨_, rfl, ?_⟩))
         go_roundg k3
         case measure => have := HJ1.out; have := HJ6.out; have := HK3.out; omega
         case rel => exact ⟨(wrap64 (x0_3 - t169)), (wrap64 (x6_3 + 1)), (by first | rfl | (simp; done) | (simp [*]; done)), (by first | rfl | (simp; done) | (simp [*]; done)), H', ⟨by have := HJ1.out; have := HJ6.out; have := HK3.out; omega⟩, ⟨by (with_reducible repeat (first | refine blk_drewN ?_ _ | refine blk_drew ?_ | refine blk_alloc ?_ _)); exact BK166.out⟩, ⟨by repeat (first | (with_reducible first | exact HB.out | apply below_alloc | apply pw_below_drewN | apply below_drew1 | refine below_set ?_ GE166.out) | exact HB.out)⟩⟩
        ·
         rw [if_neg c13] at H
         have c13b0 : decide (t168 ≤ x0_3) = false := decide_eq_false c13
         clear c13
         simp only [Option.some.injEq, Prod.mk.injEq] at H
         obtain ⟨rfl, rfl, rfl, rfl⟩ := H
         go_wp2_with (first | ((with_reducible refine gate_callee (f := 42) rfl ?_); refine goesL_ (some 27) rfl rfl Tryd.func42 (by kernel_rfl) rfl #[.int .i64 x4_6, .int .i64 x6_3] rfl (by (try simp only [List.map_toArray, List.map_cons, List.map_nil]); first | done | rfl | (simp only [List.length_drop, List.length_take]; rfl)) ?_; (with_reducible refine (tenorref5_length.calls k3 x4_6 x6_3 t168 _ A12.out).mono ?_); rintro e w' ⟨rfl, ⟨nd, rfl⟩⟩; refine ⟨_, rfl, ?_⟩; (try (rw [drewN_self wr]; generalize hq_ : World.drewN wr _ = wr; have n0_ : Aside0 (wr.heap[gb166]? = some (.cells #[.int .i64 0, .int .i64 0, .int .i64 0] 43 (0, 0))) := ⟨by rw [← hq_]; exact (by (with_reducible repeat (first | refine blk_drewN ?_ _ | refine blk_drew ?_ | refine blk_alloc ?_ _)); exact BK166.out)⟩; have n1_ : Aside0 (Below w.heap.size w wr) := ⟨by rw [← hq_]; exact (by repeat (first | (with_reducible first | exact HB.out | apply below_alloc | apply pw_below_drewN | apply below_drew1 | refine below_set ?_ GE166.out) | exact HB.out))⟩; clear BK166 HB hq_; have BK166 := n0_; have HB := n1_; clear n0_ n1_)); have hcz15_0 : wr.cell? ⟨gb166, 0, none⟩ = some (.int .i64 0) := (blk_cell BK166.out 0).trans rfl; have hcz15_1 : wr.cell? ⟨gb166, 1, none⟩ = some (.int .i64 0) := (blk_cell BK166.out 1).trans rfl; have hcz15_2 : wr.cell? ⟨gb166, 2, none⟩ = some (.int .i64 0) := (blk_cell BK166.out 2).trans rfl; have hfz15_0 := blk_frozen BK166.out 0; have hfz15_1 := blk_frozen BK166.out 1; have hfz15_2 := blk_frozen BK166.out 2))
         refine bodyPost_ret (results_ct rfl _ _ gb166 43 #[.int .i64 x4_6, .int .i64 x6_3, .int .i64 (wrap64 (x0_3 + 1))] (0, 0) _ rfl (by (with_reducible repeat (first | refine blk_drewN ?_ _ | refine blk_drew ?_ | refine blk_alloc ?_ _)); refine blk_put (cs := #[.int .i64 x4_6, .int .i64 x6_3, .int .i64 0]) ?_ 2 _ rfl; (with_reducible repeat (first | refine blk_drewN ?_ _ | refine blk_drew ?_ | refine blk_alloc ?_ _)); refine blk_put (cs := #[.int .i64 x4_6, .int .i64 0, .int .i64 0]) ?_ 1 _ rfl; (with_reducible repeat (first | refine blk_drewN ?_ _ | refine blk_drew ?_ | refine blk_alloc ?_ _)); refine blk_put (cs := #[.int .i64 0, .int .i64 0, .int .i64 0]) ?_ 0 _ rfl; (with_reducible repeat (first | refine blk_drewN ?_ _ | refine blk_drew ?_ | refine blk_alloc ?_ _)); exact BK166.out) Tryd.underlying43 rfl (by kernel_rfl)) rfl ?_
         exact ⟨by first | rfl | (simp [errW_none, errW_some] <;> rfl) | (simp [*, errW_none, errW_some] <;> rfl), by repeat (first | (with_reducible first | exact HB.out | apply below_alloc | apply pw_below_drewN | apply below_drew1 | refine below_set ?_ GE166.out) | exact HB.out)⟩
end Go.Proofs.YtoncignjcgjhhaaDoor.Q
namespace Go.Proofs.YtoncignjcgjhhaaDoor.Q
open Go.RowKit Go.Proofs.YtoncignjcgjhhaaDoorW.PrintWords Go.Proofs.YtoncignjcgjhhaaDoorW.PrintLast Go.Proofs.YtoncignjcgjhhaaDoorW.PrintMore
attribute [local go_sem] max2_int min2_int max_two min_two max_three min_three max_four min_four   -- for this text's walks alone
mutual
def tenorref5_Of.j0 : Nat → Int → Int → Int → Bool → Option (Int × Int)
  | 0, _, _, _, _ => none
  | k + 1, x0, x1, x2, x29 => if x29 = true then (some (0, 50)) else (tenorref5_Of.l0 k x0 x1 (wrap64 (x2 - 1)) 1900)
def tenorref5_Of.l0 : Nat → Int → Int → Int → Int → Option (Int × Int)
  | 0, _, _, _, _ => none
  | k + 1, x0, x1, x10, x11 => if x11 < x0 then ((tenorref5_Leap.f x11).bind fun t156 => (if t156 = true then (tenorref5_Of.l0 k x0 x1 (wrap64 ((wrap64 (x10 + 365)) + 1)) (wrap64 (x11 + 1))) else (tenorref5_Of.l0 k x0 x1 (wrap64 (x10 + 365)) (wrap64 (x11 + 1))))) else (tenorref5_Of.l1 k x0 x1 x10 1)
def tenorref5_Of.l1 : Nat → Int → Int → Int → Int → Option (Int × Int)
  | 0, _, _, _, _ => none
  | k + 1, x0, x1, x10, x12 => if x12 < x1 then ((tenorref5_length.f k x0 x12).bind fun t157 => (tenorref5_Of.l1 k x0 x1 (wrap64 (x10 + t157)) (wrap64 (x12 + 1)))) else (some (x10, 0))
end
def tenorref5_Of.f (k : Nat) (a0 : Int) (a1 : Int) (a2 : Int) : Option (Int × Int) := (tenorref5_Length.f k a0 a1).bind fun bt154 => (if bt154.2 = 0 then (if a2 < 1 then (tenorref5_Of.j0 k a0 a1 a2 true) else (tenorref5_Of.j0 k a0 a1 a2 (decide (a2 > bt154.1)))) else (tenorref5_Of.j0 k a0 a1 a2 true))
theorem tenorref5_Of.mono_l : ∀ k, (∀ y0 y1 y2 y3, LeO (tenorref5_Of.j0 k y0 y1 y2 y3) (tenorref5_Of.j0 (k + 1) y0 y1 y2 y3)) ∧ (∀ y0 y1 y2 y3, LeO (tenorref5_Of.l0 k y0 y1 y2 y3) (tenorref5_Of.l0 (k + 1) y0 y1 y2 y3)) ∧ (∀ y0 y1 y2 y3, LeO (tenorref5_Of.l1 k y0 y1 y2 y3) (tenorref5_Of.l1 (k + 1) y0 y1 y2 y3))
 | 0 => ⟨fun _ _ _ _ r h => by simp [tenorref5_Of.j0] at h, fun _ _ _ _ r h => by simp [tenorref5_Of.l0] at h, fun _ _ _ _ r h => by simp [tenorref5_Of.l1] at h⟩
 | k + 1 => by
  obtain ⟨ih0, ih1, ih2⟩ := tenorref5_Of.mono_l k
  refine ⟨?_, ?_, ?_⟩
  ·
   intro y0 y1 y2 y3
   unfold tenorref5_Of.j0
   repeat' first
   | (with_reducible exact ih0 _ _ _ _)
   | (with_reducible exact ih1 _ _ _ _)
   | (with_reducible exact ih2 _ _ _ _)
   | (with_reducible exact tenorref5_Length.mono _ _ _)
   | (with_reducible exact tenorref5_length.mono _ _ _)
   | (with_reducible exact LeO.refl _)
   | (with_reducible exact LeO.none _)
   | (with_reducible refine LeO.ite ?_ ?_)
   | (with_reducible refine LeO.bind ?_ (fun _ => ?_))
   | exact ih0 _ _ _ _
   | exact ih1 _ _ _ _
   | exact ih2 _ _ _ _
   | exact tenorref5_Length.mono _ _ _
   | exact tenorref5_length.mono _ _ _
   | exact LeO.none _
   | refine LeO.ite ?_ ?_
   | refine LeO.bind ?_ (fun _ => ?_)
  ·
   intro y0 y1 y2 y3
   unfold tenorref5_Of.l0
   repeat' first
   | (with_reducible exact ih0 _ _ _ _)
   | (with_reducible exact ih1 _ _ _ _)
   | (with_reducible exact ih2 _ _ _ _)
   | (with_reducible exact tenorref5_Length.mono _ _ _)
   | (with_reducible exact tenorref5_length.mono _ _ _)
   | (with_reducible exact LeO.refl _)
   | (with_reducible exact LeO.none _)
   | (with_reducible refine LeO.ite ?_ ?_)
   | (with_reducible refine LeO.bind ?_ (fun _ => ?_))
   | exact ih0 _ _ _ _
   | exact ih1 _ _ _ _
   | exact ih2 _ _ _ _
   | exact tenorref5_Length.mono _ _ _
   | exact tenorref5_length.mono _ _ _
   | exact LeO.none _
   | refine LeO.ite ?_ ?_
   | refine LeO.bind ?_ (fun _ => ?_)
  ·
   intro y0 y1 y2 y3
   unfold tenorref5_Of.l1
   repeat' first
   | (with_reducible exact ih0 _ _ _ _)
   | (with_reducible exact ih1 _ _ _ _)
   | (with_reducible exact ih2 _ _ _ _)
   | (with_reducible exact tenorref5_Length.mono _ _ _)
   | (with_reducible exact tenorref5_length.mono _ _ _)
   | (with_reducible exact LeO.refl _)
   | (with_reducible exact LeO.none _)
   | (with_reducible refine LeO.ite ?_ ?_)
   | (with_reducible refine LeO.bind ?_ (fun _ => ?_))
   | exact ih0 _ _ _ _
   | exact ih1 _ _ _ _
   | exact ih2 _ _ _ _
   | exact tenorref5_Length.mono _ _ _
   | exact tenorref5_length.mono _ _ _
   | exact LeO.none _
   | refine LeO.ite ?_ ?_
   | refine LeO.bind ?_ (fun _ => ?_)
theorem tenorref5_Of.mono : ∀ a0 a1 a2 k, LeO (tenorref5_Of.f k a0 a1 a2) (tenorref5_Of.f (k + 1) a0 a1 a2) := by
 intro a0 a1 a2 k
 obtain ⟨ih0, ih1, ih2⟩ := tenorref5_Of.mono_l k
 unfold tenorref5_Of.f
 repeat' first
   | (with_reducible exact ih0 _ _ _ _)
   | (with_reducible exact ih1 _ _ _ _)
   | (with_reducible exact ih2 _ _ _ _)
   | (with_reducible exact tenorref5_Length.mono _ _ _)
   | (with_reducible exact tenorref5_length.mono _ _ _)
   | (with_reducible exact LeO.refl _)
   | (with_reducible exact LeO.none _)
   | (with_reducible refine LeO.ite ?_ ?_)
   | (with_reducible refine LeO.bind ?_ (fun _ => ?_))
   | exact ih0 _ _ _ _
   | exact ih1 _ _ _ _
   | exact ih2 _ _ _ _
   | exact tenorref5_Length.mono _ _ _
   | exact tenorref5_length.mono _ _ _
   | exact LeO.none _
   | refine LeO.ite ?_ ?_
   | refine LeO.bind ?_ (fun _ => ?_)
set_option maxHeartbeats 8000000 in
set_option maxRecDepth 100000 in
theorem tenorref5_Of.calls (k : Nat) (a0 : Int) (a1 : Int) (a2 : Int) (r1 : Int) (r2 : Int) (w : World) (h : tenorref5_Of.f k a0 a1 a2 = some (r1, r2)) :
  Calls Tryd.prog 22 #[.int .i64 a0, .int .i64 a1, .int .i64 a2] w fun e w' => e = .returned (.tuple #[.int .i64 r1, .int .i64 r2]) ∧ Drawn0 w w' := by
 have H : ((tenorref5_Length.f k a0 a1).bind fun bt154 => (if bt154.2 = 0 then (if a2 < 1 then (tenorref5_Of.j0 k a0 a1 a2 true) else (tenorref5_Of.j0 k a0 a1 a2 (decide (a2 > bt154.1)))) else (tenorref5_Of.j0 k a0 a1 a2 true))) = some (r1, r2) := h
 clear h;replace H := Option.bind_eq_some_iff.mp H
 obtain ⟨⟨t154, t155⟩, A40, H⟩ := H
 replace H : (if t155 = 0 then (if a2 < 1 then (tenorref5_Of.j0 k a0 a1 a2 true) else (tenorref5_Of.j0 k a0 a1 a2 (decide (a2 > t154)))) else (tenorref5_Of.j0 k a0 a1 a2 true)) = some (r1, r2) := H
 have A4 := Aside0.mk A40;clear A40;have HC5 := Aside0.mk H;clear H
 go_enter Tryd.func22, Tryd.ntmps22
 go_upto_region 2 with (first | ((with_reducible refine gate_callee (f := 20) rfl ?_); refine goesL_ (some 16) rfl rfl Tryd.func20 (by kernel_rfl) rfl #[.int .i64 a0, .int .i64 a1] rfl (by (try simp only [List.map_toArray, List.map_cons, List.map_nil]); first | done | rfl | (simp only [List.length_drop, List.length_take]; rfl)) ?_; (with_reducible refine (tenorref5_Length.calls k a0 a1 t154 t155 _ A4.out).mono ?_); rintro e w' ⟨rfl, ⟨nd, rfl⟩⟩; refine ⟨_, rfl, ?_⟩))
 (try simp only [Act.put, List.setIfInBounds_toArray, List.set_cons_zero, List.set_cons_succ])
 go_cut [29] (fun v29 wc => ∃ (kq : Nat) (x29_4 : Bool), v29 = .bool x29_4 ∧ Aside0 (tenorref5_Of.j0 kq a0 a1 a2 x29_4 = some (r1, r2)) ∧ Aside0 (kq ≤ k) ∧ Drawn0 w wc)
 case first =>
  have H := HC5.out;clear HC5
  by_cases c6 : t155 = 0
  ·
   rw [if_pos c6] at H
   have c6b0 : (t155 == 0) = true := beq_iff_eq.mpr c6
   have c6b1 : (t155 != 0) = false := bne_eq_false_iff_eq.mpr c6
   clear c6
   (first | rw [c6b0] | (simp only [i64_w, i32_w]; rw [c6b0]) | skip)
   by_cases c7 : a2 < 1
   ·
    rw [if_pos c7] at H
    have c7b0 : decide (a2 < 1) = true := decide_eq_true c7
    clear c7;have H' := Aside0.mk H;clear H
    go_wp2
    go_meet
    case rel => exact ⟨_, (true), (by first | rfl | (simp; done) | (simp [*]; done)), H', ⟨by first | omega | exact Nat.le_refl _⟩, by repeat (first | exact Drawn0.refl _ | apply Drawn0.step)⟩
   ·
    rw [if_neg c7] at H
    have c7b0 : decide (a2 < 1) = false := decide_eq_false c7
    clear c7;have H' := Aside0.mk H;clear H
    go_wp2
    go_meet
    case rel => exact ⟨_, (decide (a2 > t154)), (by first | rfl | (simp; done) | (simp [*]; done)), H', ⟨by first | omega | exact Nat.le_refl _⟩, by repeat (first | exact Drawn0.refl _ | apply Drawn0.step)⟩
  ·
   rw [if_neg c6] at H
   have c6b0 : (t155 == 0) = false := beq_eq_false_iff_ne.mpr c6
   have c6b1 : (t155 != 0) = true := bne_iff_ne.mpr c6
   (first | rw [c6b0] | (simp only [i64_w, i32_w]; rw [c6b0]) | skip)
   have H' := Aside0.mk H;clear H
   go_wp2
   go_meet
   case rel => exact ⟨_, (true), (by first | rfl | (simp; done) | (simp [*]; done)), H', ⟨by first | omega | exact Nat.le_refl _⟩, by repeat (first | exact Drawn0.refl _ | apply Drawn0.step)⟩
 case rest =>
  clear HC5
  obtain ⟨kq, x29_4, rfl, HA, HJ4, ⟨mc4, rfl⟩⟩ := hcut
  cases kq with
  | zero => exact absurd HA.out (by simp [tenorref5_Of.j0])
  | succ kj4 =>
   have H := HA.out;clear HA
   simp only [tenorref5_Of.j0] at H
   by_cases c8 : x29_4 = true
   ·
    subst c8
    have H1 : (some (0, 50)) = some (r1, r2) := by rw [if_pos rfl] at H; exact H
    clear H;have H := H1;clear H1
    simp only [Option.some.injEq, Prod.mk.injEq] at H
    obtain ⟨rfl, rfl⟩ := H
    go_wp2
    go_ret2
    exact ⟨by first | rfl | (simp; done) | (simp [*]; done), by repeat (first | exact Drawn0.refl _ | apply Drawn0.step)⟩
   ·
    replace c8 := Bool.eq_false_iff.mpr c8;subst c8
    have H1 : (tenorref5_Of.l0 kj4 a0 a1 (wrap64 (a2 - 1)) 1900) = some (r1, r2) := by rw [if_neg (show ¬ (false = true) by decide)] at H; exact H
    clear H;have H := H1;clear H1;have H' := Aside0.mk H;clear H
    go_wp2
    go_loopg [10, 11] kj4 (fun kq v10 v11 w' => ∃ (x10_2 : Int) (x11_2 : Int), v10 = .int .i64 x10_2 ∧ v11 = .int .i64 x11_2 ∧ Aside0 (tenorref5_Of.l0 kq a0 a1 x10_2 x11_2 = some (r1, r2)) ∧ Aside0 (kq ≤ kj4) ∧ Drawn0 w w')
    case atStart => exact ⟨(wrap64 (a2 - 1)), (1900), (by first | rfl | (simp; done) | (simp [*]; done)), (by first | rfl | (simp; done) | (simp [*]; done)), H', ⟨Nat.le_refl _⟩, by repeat (first | exact Drawn0.refl _ | apply Drawn0.step)⟩
    case round =>
     clear H'
     obtain ⟨x10_2, x11_2, rfl, rfl, HA, HK2, ⟨m2, rfl⟩⟩ := hrel
     cases gk with
     | zero => exact absurd HA.out (by simp [tenorref5_Of.l0])
     | succ k2 =>
      have H := HA.out;clear HA
      simp only [tenorref5_Of.l0] at H
      by_cases c9 : x11_2 < a0
      ·
       rw [if_pos c9] at H
       have c9b0 : decide (x11_2 < a0) = true := decide_eq_true c9
       clear c9;replace H := Option.bind_eq_some_iff.mp H
       obtain ⟨t156, A100, H⟩ := H
       replace H : (if t156 = true then (tenorref5_Of.l0 k2 a0 a1 (wrap64 ((wrap64 (x10_2 + 365)) + 1)) (wrap64 (x11_2 + 1))) else (tenorref5_Of.l0 k2 a0 a1 (wrap64 (x10_2 + 365)) (wrap64 (x11_2 + 1)))) = some (r1, r2) := H
       have A10 := Aside0.mk A100;clear A100
       by_cases c11 : t156 = true
       ·
        subst c11
        have H1 : (tenorref5_Of.l0 k2 a0 a1 (wrap64 ((wrap64 (x10_2 + 365)) + 1)) (wrap64 (x11_2 + 1))) = some (r1, r2) := by rw [if_pos rfl] at H; exact H
        clear H;have H := H1;clear H1;have H' := Aside0.mk H;clear H
        go_wp2_with (first | ((with_reducible refine gate_callee (f := 28) rfl ?_); refine goesL_ (some 40) rfl rfl Tryd.func28 (by kernel_rfl) rfl #[.int .i64 x11_2] rfl (by (try simp only [List.map_toArray, List.map_cons, List.map_nil]); first | done | rfl | (simp only [List.length_drop, List.length_take]; rfl)) ?_; (with_reducible refine (tenorref5_Leap.calls x11_2 true _ A10.out).mono ?_); rintro e w' ⟨rfl, ⟨nd, rfl⟩⟩; refine ⟨_, rfl, ?_⟩))
        go_roundg k2
        case measure => have := HJ4.out; have := HK2.out; omega
        case rel => exact ⟨(wrap64 ((wrap64 (x10_2 + 365)) + 1)), (wrap64 (x11_2 + 1)), (by first | rfl | (simp; done) | (simp [*]; done)), (by first | rfl | (simp; done) | (simp [*]; done)), H', ⟨by have := HJ4.out; have := HK2.out; omega⟩, by repeat (first | exact Drawn0.refl _ | apply Drawn0.step)⟩
       ·
        replace c11 := Bool.eq_false_iff.mpr c11;subst c11
        have H1 : (tenorref5_Of.l0 k2 a0 a1 (wrap64 (x10_2 + 365)) (wrap64 (x11_2 + 1))) = some (r1, r2) := by rw [if_neg (show ¬ (false = true) by decide)] at H; exact H
        clear H;have H := H1;clear H1;have H' := Aside0.mk H;clear H
        go_wp2_with (first | ((with_reducible refine gate_callee (f := 28) rfl ?_); refine goesL_ (some 40) rfl rfl Tryd.func28 (by kernel_rfl) rfl #[.int .i64 x11_2] rfl (by (try simp only [List.map_toArray, List.map_cons, List.map_nil]); first | done | rfl | (simp only [List.length_drop, List.length_take]; rfl)) ?_; (with_reducible refine (tenorref5_Leap.calls x11_2 false _ A10.out).mono ?_); rintro e w' ⟨rfl, ⟨nd, rfl⟩⟩; refine ⟨_, rfl, ?_⟩))
        go_roundg k2
        case measure => have := HJ4.out; have := HK2.out; omega
        case rel => exact ⟨(wrap64 (x10_2 + 365)), (wrap64 (x11_2 + 1)), (by first | rfl | (simp; done) | (simp [*]; done)), (by first | rfl | (simp; done) | (simp [*]; done)), H', ⟨by have := HJ4.out; have := HK2.out; omega⟩, by repeat (first | exact Drawn0.refl _ | apply Drawn0.step)⟩
      ·
       rw [if_neg c9] at H
       have c9b0 : decide (x11_2 < a0) = false := decide_eq_false c9
       clear c9;have H' := Aside0.mk H;clear H
       go_wp2
       go_loopg [10, 12] k2 (fun kq v10 v12 w' => ∃ (x10_3 : Int) (x12_3 : Int), v10 = .int .i64 x10_3 ∧ v12 = .int .i64 x12_3 ∧ Aside0 (tenorref5_Of.l1 kq a0 a1 x10_3 x12_3 = some (r1, r2)) ∧ Aside0 (kq ≤ k2) ∧ Drawn0 w w')
       case atStart => exact ⟨(x10_2), (1), (by first | rfl | (simp; done) | (simp [*]; done)), (by first | rfl | (simp; done) | (simp [*]; done)), H', ⟨Nat.le_refl _⟩, by repeat (first | exact Drawn0.refl _ | apply Drawn0.step)⟩
       case round =>
        clear H'
        obtain ⟨x10_3, x12_3, rfl, rfl, HA, HK3, ⟨m3, rfl⟩⟩ := hrel
        cases gk with
        | zero => exact absurd HA.out (by simp [tenorref5_Of.l1])
        | succ k3 =>
         have H := HA.out;clear HA
         simp only [tenorref5_Of.l1] at H
         by_cases c12 : x12_3 < a1
         ·
          rw [if_pos c12] at H
          have c12b0 : decide (x12_3 < a1) = true := decide_eq_true c12
          clear c12;replace H := Option.bind_eq_some_iff.mp H
          obtain ⟨t157, A130, H⟩ := H
          replace H : (tenorref5_Of.l1 k3 a0 a1 (wrap64 (x10_3 + t157)) (wrap64 (x12_3 + 1))) = some (r1, r2) := H
          have A13 := Aside0.mk A130;clear A130;have H' := Aside0.mk H;clear H
          go_wp2_with (first | ((with_reducible refine gate_callee (f := 42) rfl ?_); refine goesL_ (some 51) rfl rfl Tryd.func42 (by kernel_rfl) rfl #[.int .i64 a0, .int .i64 x12_3] rfl (by (try simp only [List.map_toArray, List.map_cons, List.map_nil]); first | done | rfl | (simp only [List.length_drop, List.length_take]; rfl)) ?_; (with_reducible refine (tenorref5_length.calls k3 a0 x12_3 t157 _ A13.out).mono ?_); rintro e w' ⟨rfl, ⟨nd, rfl⟩⟩; refine ⟨_, rfl, ?_⟩))
          go_roundg k3
          case measure => have := HJ4.out; have := HK2.out; have := HK3.out; omega
          case rel => exact ⟨(wrap64 (x10_3 + t157)), (wrap64 (x12_3 + 1)), (by first | rfl | (simp; done) | (simp [*]; done)), (by first | rfl | (simp; done) | (simp [*]; done)), H', ⟨by have := HJ4.out; have := HK2.out; have := HK3.out; omega⟩, by repeat (first | exact Drawn0.refl _ | apply Drawn0.step)⟩
         ·
          rw [if_neg c12] at H
          have c12b0 : decide (x12_3 < a1) = false := decide_eq_false c12
          clear c12
          simp only [Option.some.injEq, Prod.mk.injEq] at H
          obtain ⟨rfl, rfl⟩ := H
          go_wp2
          go_ret2
          exact ⟨by first | rfl | (simp; done) | (simp [*]; done), by repeat (first | exact Drawn0.refl _ | apply Drawn0.step)⟩
end Go.Proofs.YtoncignjcgjhhaaDoor.Q
