/- Contracts of functions of the seat's program: each Go function's Lean function and its walk, written by a program of this session over the kit's print. Not trusted: Lean checks it. -/
import Derived.Test.YtoncignjcgjhhaaDoorZQPrint
import Derived.Test.YtoncignjcgjhhaaDoorZGA
import Derived.Test.YtoncignjcgjhhaaDoorZQx20
import Derived.Test.YtoncignjcgjhhaaDoorZQx21
import Derived.Test.YtoncignjcgjhhaaDoorZGB
import Derived.Test.YtoncignjcgjhhaaDoorZU
set_option linter.unusedVariables false
set_option linter.unusedSimpArgs false
namespace Go.Proofs.YtoncignjcgjhhaaDoor.Q
open Go.RowKit Go.Proofs.YtoncignjcgjhhaaDoorW.PrintWords Go.Proofs.YtoncignjcgjhhaaDoorW.PrintLast Go.Proofs.YtoncignjcgjhhaaDoorW.PrintMore
attribute [local go_sem] max2_int min2_int max_two min_two max_three min_three max_four min_four   -- for this text's walks alone
def tenorlaw5_DateTexts.f (k : Nat) (a0 : ByteArray) (a1 : Int) : Option (Bool) := (date_Parse.f k a0).bind fun bt295 => ((tenorref5_Parse.f k a0).bind fun bt297 => ((date_Print.f a1).bind fun bt299 => ((tenorref5_Print.f k a1).bind fun bt301 => (if bt295.1 = bt297.1 then (if bt295.2 = bt297.2 then (if bt299.1.toList = bt301.1.toList then (if bt299.2 = bt301.2 then ((tenorlaw5_awake.f k).bind fun t303 => (some t303)) else (some false)) else (some false)) else (some false)) else (some false)))))
theorem tenorlaw5_DateTexts.mono : ∀ a0 a1 k, LeO (tenorlaw5_DateTexts.f k a0 a1) (tenorlaw5_DateTexts.f (k + 1) a0 a1) := by
 intro a0 a1 k
 unfold tenorlaw5_DateTexts.f
 repeat' first
   | (with_reducible exact date_Parse.mono _ _)
   | (with_reducible exact tenorlaw5_awake.mono _)
   | (with_reducible exact tenorref5_Parse.mono _ _)
   | (with_reducible exact tenorref5_Print.mono _ _)
   | (with_reducible exact LeO.refl _)
   | (with_reducible exact LeO.none _)
   | (with_reducible refine LeO.ite ?_ ?_)
   | (with_reducible refine LeO.bind ?_ (fun _ => ?_))
   | exact date_Parse.mono _ _
   | exact tenorlaw5_awake.mono _
   | exact tenorref5_Parse.mono _ _
   | exact tenorref5_Print.mono _ _
   | exact LeO.none _
   | refine LeO.ite ?_ ?_
   | refine LeO.bind ?_ (fun _ => ?_)
set_option maxHeartbeats 8000000 in
set_option maxRecDepth 100000 in
theorem tenorlaw5_DateTexts.calls (k : Nat) (a0 : ByteArray) (a1 : Int) (r : Bool) (w : World) (HTB : Lib.TabBelow Tryd.prog w.heap.size w "internal/strconv.uint64pow10" .u64 Lib.pow10Tab) (h : tenorlaw5_DateTexts.f k a0 a1 = some r) (HT : r = true) :
  Calls Tryd.prog 4 #[.string a0, .int .i64 a1] w fun e w' => e = .returned (.bool r) ∧ Below w.heap.size w w' := by
 have HB := Aside0.mk (Below.refl w.heap.size w)
 have HTA := Aside0.mk HTB;clear HTB
 have H : ((date_Parse.f k a0).bind fun bt295 => ((tenorref5_Parse.f k a0).bind fun bt297 => ((date_Print.f a1).bind fun bt299 => ((tenorref5_Print.f k a1).bind fun bt301 => (if bt295.1 = bt297.1 then (if bt295.2 = bt297.2 then (if bt299.1.toList = bt301.1.toList then (if bt299.2 = bt301.2 then ((tenorlaw5_awake.f k).bind fun t303 => (some t303)) else (some false)) else (some false)) else (some false)) else (some false)))))) = some r := h
 clear h;replace H := Option.bind_eq_some_iff.mp H
 obtain ⟨⟨t295, t296⟩, A30, H⟩ := H
 replace H : ((tenorref5_Parse.f k a0).bind fun bt297 => ((date_Print.f a1).bind fun bt299 => ((tenorref5_Print.f k a1).bind fun bt301 => (if t295 = bt297.1 then (if t296 = bt297.2 then (if bt299.1.toList = bt301.1.toList then (if bt299.2 = bt301.2 then ((tenorlaw5_awake.f k).bind fun t303 => (some t303)) else (some false)) else (some false)) else (some false)) else (some false))))) = some r := H
 have A3 := Aside0.mk A30;clear A30;replace H := Option.bind_eq_some_iff.mp H
 obtain ⟨⟨t297, t298⟩, A40, H⟩ := H
 replace H : ((date_Print.f a1).bind fun bt299 => ((tenorref5_Print.f k a1).bind fun bt301 => (if t295 = t297 then (if t296 = t298 then (if bt299.1.toList = bt301.1.toList then (if bt299.2 = bt301.2 then ((tenorlaw5_awake.f k).bind fun t303 => (some t303)) else (some false)) else (some false)) else (some false)) else (some false)))) = some r := H
 have A4 := Aside0.mk A40;clear A40;replace H := Option.bind_eq_some_iff.mp H
 obtain ⟨⟨t299, t300⟩, A50, H⟩ := H
 replace H : ((tenorref5_Print.f k a1).bind fun bt301 => (if t295 = t297 then (if t296 = t298 then (if t299.toList = bt301.1.toList then (if t300 = bt301.2 then ((tenorlaw5_awake.f k).bind fun t303 => (some t303)) else (some false)) else (some false)) else (some false)) else (some false))) = some r := H
 have A5 := Aside0.mk A50;clear A50;replace H := Option.bind_eq_some_iff.mp H
 obtain ⟨⟨t301, t302⟩, A60, H⟩ := H
 replace H : (if t295 = t297 then (if t296 = t298 then (if t299.toList = t301.toList then (if t300 = t302 then ((tenorlaw5_awake.f k).bind fun t303 => (some t303)) else (some false)) else (some false)) else (some false)) else (some false)) = some r := H
 have A6 := Aside0.mk A60;clear A60
 by_cases c7 : t295 = t297
 ·
  rw [if_pos c7] at H
  have c7b0 : (t295 == t297) = true := beq_iff_eq.mpr c7
  have c7b1 : (t295 != t297) = false := bne_eq_false_iff_eq.mpr c7
  clear c7
  by_cases c8 : t296 = t298
  ·
   rw [if_pos c8] at H
   have c8b0 : (t296 == t298) = true := beq_iff_eq.mpr c8
   have c8b1 : (t296 != t298) = false := bne_eq_false_iff_eq.mpr c8
   clear c8
   by_cases c9 : t299.toList = t301.toList
   ·
    rw [if_pos c9] at H
    have c9b0 : (t299.toList == t301.toList) = true := beq_iff_eq.mpr c9
    have c9b1 : (t299.toList != t301.toList) = false := bne_eq_false_iff_eq.mpr c9
    clear c9
    by_cases c10 : t300 = t302
    ·
     rw [if_pos c10] at H
     have c10b0 : (t300 == t302) = true := beq_iff_eq.mpr c10
     have c10b1 : (t300 != t302) = false := bne_eq_false_iff_eq.mpr c10
     clear c10;replace H := Option.bind_eq_some_iff.mp H
     obtain ⟨t303, A110, H⟩ := H
     replace H : (some t303) = some r := H
     have A11 := Aside0.mk A110;clear A110
     obtain rfl := Option.some.inj H
     go_enter Tryd.func4, Tryd.ntmps4
     go_wp2_with (first | ((with_reducible refine gate_callee (f := 15) rfl ?_); refine goesL_ (some 15) rfl rfl Tryd.func15 (by kernel_rfl) rfl #[.string a0] rfl (by (try simp only [List.map_toArray, List.map_cons, List.map_nil]); first | done | rfl | (simp only [List.length_drop, List.length_take]; rfl)) ?_; (with_reducible refine (date_Parse.calls k a0 t295 t296 _ A3.out).mono ?_); rintro e w12 ⟨rfl, hb⟩; refine ⟨_, rfl, ?_⟩; have n0_ := Aside0.mk (below_step (by repeat (first | (with_reducible first | exact HB.out | apply below_alloc | apply pw_below_drewN | apply below_drew1) | exact HB.out)) hb); clear HB; have HB := n0_; clear n0_; (try clear hb); (try clear hb2); (try clear hk); (try clear hi)) | ((with_reducible refine gate_callee (f := 16) rfl ?_); refine goesL_ (some 20) rfl rfl Tryd.func16 (by kernel_rfl) rfl #[.string a0] rfl (by (try simp only [List.map_toArray, List.map_cons, List.map_nil]); first | done | rfl | (simp only [List.length_drop, List.length_take]; rfl)) ?_; (with_reducible refine (tenorref5_Parse.calls k a0 t297 t298 _ A4.out).mono ?_); rintro e w' ⟨rfl, ⟨nd, rfl⟩⟩; refine ⟨_, rfl, ?_⟩) | ((with_reducible refine gate_callee (f := 17) rfl ?_); refine goesL_ (some 25) rfl rfl Tryd.func17 (by kernel_rfl) rfl #[.int .i64 a1] rfl (by (try simp only [List.map_toArray, List.map_cons, List.map_nil]); first | done | rfl | (simp only [List.length_drop, List.length_take]; rfl)) ?_; (with_reducible refine (date_Print.calls a1 t299 t300 _ A5.out (tab_on HTA.out (by repeat (first | (with_reducible first | exact HB.out | apply below_alloc | apply pw_below_drewN | apply below_drew1) | exact HB.out)))).mono ?_); rintro e w13 ⟨rfl, hb⟩; refine ⟨_, rfl, ?_⟩; have n0_ := Aside0.mk (below_step (by repeat (first | (with_reducible first | exact HB.out | apply below_alloc | apply pw_below_drewN | apply below_drew1) | exact HB.out)) hb); clear HB; have HB := n0_; clear n0_; (try clear hb); (try clear hb2); (try clear hk); (try clear hi)) | ((with_reducible refine gate_callee (f := 18) rfl ?_); refine goesL_ (some 30) rfl rfl Tryd.func18 (by kernel_rfl) rfl #[.int .i64 a1] rfl (by (try simp only [List.map_toArray, List.map_cons, List.map_nil]); first | done | rfl | (simp only [List.length_drop, List.length_take]; rfl)) ?_; (with_reducible refine (tenorref5_Print.calls k a1 t301 t302 _ A6.out).mono ?_); rintro e w14 ⟨rfl, hb⟩; refine ⟨_, rfl, ?_⟩; have n0_ := Aside0.mk (below_step (by repeat (first | (with_reducible first | exact HB.out | apply below_alloc | apply pw_below_drewN | apply below_drew1) | exact HB.out)) hb); clear HB; have HB := n0_; clear n0_; (try clear hb); (try clear hb2); (try clear hk); (try clear hi)) | (go_at_call 14; (with_reducible refine (tenorlaw5_awake.calls k  t303 _ A11.out).mono ?_); rintro e w15 ⟨rfl, hb⟩; have n0_ := Aside0.mk (below_step (by repeat (first | (with_reducible first | exact HB.out | apply below_alloc | apply pw_below_drewN | apply below_drew1) | exact HB.out)) hb); clear HB; have HB := n0_; clear n0_; (try clear hb); (try clear hb2); (try clear hk); (try clear hi)))
     go_ret
     exact ⟨by first | rfl | (simp [errW_none, errW_some] <;> rfl) | (simp [*, errW_none, errW_some] <;> rfl), by repeat (first | (with_reducible first | exact HB.out | apply below_alloc | apply pw_below_drewN | apply below_drew1) | exact HB.out)⟩
    ·
     rw [if_neg c10] at H
     have c10b0 : (t300 == t302) = false := beq_eq_false_iff_ne.mpr c10
     have c10b1 : (t300 != t302) = true := bne_iff_ne.mpr c10
     exact absurd (H.trans (congrArg some HT)) (by decide)
   ·
    rw [if_neg c9] at H
    have c9b0 : (t299.toList == t301.toList) = false := beq_eq_false_iff_ne.mpr c9
    have c9b1 : (t299.toList != t301.toList) = true := bne_iff_ne.mpr c9
    exact absurd (H.trans (congrArg some HT)) (by decide)
  ·
   rw [if_neg c8] at H
   have c8b0 : (t296 == t298) = false := beq_eq_false_iff_ne.mpr c8
   have c8b1 : (t296 != t298) = true := bne_iff_ne.mpr c8
   exact absurd (H.trans (congrArg some HT)) (by decide)
 ·
  rw [if_neg c7] at H
  have c7b0 : (t295 == t297) = false := beq_eq_false_iff_ne.mpr c7
  have c7b1 : (t295 != t297) = true := bne_iff_ne.mpr c7
  exact absurd (H.trans (congrArg some HT)) (by decide)
end Go.Proofs.YtoncignjcgjhhaaDoor.Q
