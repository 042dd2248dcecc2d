/- Contracts of functions of the seat's program: each Go function's Lean function and its walk, written by a program of this session over the kit's print. Not trusted: Lean checks it. -/
import Derived.Test.YtoncignjcgjhhaaDoorZQPrint
import Derived.Test.YtoncignjcgjhhaaDoorZGA
import Derived.Test.YtoncignjcgjhhaaDoorZGB
import Derived.Test.YtoncignjcgjhhaaDoorZQx17
import Derived.Test.YtoncignjcgjhhaaDoorZBackC
import Derived.Test.YtoncignjcgjhhaaDoorZU
set_option linter.unusedVariables false
set_option linter.unusedSimpArgs false
namespace Go.Proofs.YtoncignjcgjhhaaDoor.Q
open Go.RowKit Go.Proofs.YtoncignjcgjhhaaDoorW.PrintWords Go.Proofs.YtoncignjcgjhhaaDoorW.PrintLast Go.Proofs.YtoncignjcgjhhaaDoorW.PrintMore
attribute [local go_sem] max2_int min2_int max_two min_two max_three min_three max_four min_four   -- for this text's walks alone
def tenorlaw5_DateBack.j0 : Nat → Int → Int → Int → Int → Bool → Option (Bool)
  | 0, _, _, _, _, _ => none
  | k + 1, x0, x9, x10, x11, x103 => if x103 = true then (some false) else (if x0 = 109572 then (if x9 = 2199 then (if x10 = 12 then (if x11 = 31 then ((tenorlaw5_awake.f k).bind fun t322 => (some t322)) else (some false)) else (some false)) else (some false)) else ((date_Civil.f k (wrap64 (x0 + 1))).bind fun bt323 => ((date_Length.f x9 x10).bind fun bt327 => ((date_Weekday.f x0).bind fun bt329 => ((date_Weekday.f (wrap64 (x0 + 1))).bind fun bt331 => (if bt323.2.2.2 = 0 then (if bt327.2 = 0 then (if bt329.2 = 0 then (if bt331.2 = 0 then (if bt331.1 = (Int.tmod (wrap64 (bt329.1 + 1)) 7) then (if bt323.1 = x9 then (if bt323.2.1 = x10 then (if bt323.2.2.1 = (wrap64 (x11 + 1)) then (if bt323.2.1 = (wrap64 (x10 + 1)) then (if bt323.2.2.1 = 1 then (if bt323.1 = (wrap64 (x9 + 1)) then (if bt323.2.1 = 1 then (if x10 = 12 then (if x11 < bt327.1 then ((tenorlaw5_awake.f k).bind fun t333 => (some t333)) else (if x11 = bt327.1 then ((tenorlaw5_awake.f k).bind fun t334 => (some t334)) else (if x11 = 31 then ((tenorlaw5_awake.f k).bind fun t335 => (some t335)) else (some false)))) else (if x11 < bt327.1 then ((tenorlaw5_awake.f k).bind fun t336 => (some t336)) else (if x11 = bt327.1 then ((tenorlaw5_awake.f k).bind fun t337 => (some t337)) else (some false)))) else (if x11 < bt327.1 then ((tenorlaw5_awake.f k).bind fun t338 => (some t338)) else (if x11 = bt327.1 then ((tenorlaw5_awake.f k).bind fun t339 => (some t339)) else (some false)))) else (if x11 < bt327.1 then ((tenorlaw5_awake.f k).bind fun t340 => (some t340)) else (if x11 = bt327.1 then ((tenorlaw5_awake.f k).bind fun t341 => (some t341)) else (some false)))) else (if bt323.1 = (wrap64 (x9 + 1)) then (if bt323.2.1 = 1 then (if x11 < bt327.1 then ((tenorlaw5_awake.f k).bind fun t342 => (some t342)) else (some false)) else (if x11 < bt327.1 then ((tenorlaw5_awake.f k).bind fun t343 => (some t343)) else (some false))) else (if x11 < bt327.1 then ((tenorlaw5_awake.f k).bind fun t344 => (some t344)) else (some false)))) else (if bt323.1 = (wrap64 (x9 + 1)) then (if bt323.2.1 = 1 then (if bt323.2.2.1 = 1 then (if x10 = 12 then (if x11 < bt327.1 then ((tenorlaw5_awake.f k).bind fun t345 => (some t345)) else (if x11 = 31 then ((tenorlaw5_awake.f k).bind fun t346 => (some t346)) else (some false))) else (if x11 < bt327.1 then ((tenorlaw5_awake.f k).bind fun t347 => (some t347)) else (some false))) else (if x11 < bt327.1 then ((tenorlaw5_awake.f k).bind fun t348 => (some t348)) else (some false))) else (if x11 < bt327.1 then ((tenorlaw5_awake.f k).bind fun t349 => (some t349)) else (some false))) else (if x11 < bt327.1 then ((tenorlaw5_awake.f k).bind fun t350 => (some t350)) else (some false)))) else (if bt323.2.1 = (wrap64 (x10 + 1)) then (if bt323.2.2.1 = 1 then (if bt323.1 = (wrap64 (x9 + 1)) then (if bt323.2.1 = 1 then (if x10 = 12 then (if x11 = bt327.1 then ((tenorlaw5_awake.f k).bind fun t351 => (some t351)) else (if x11 = 31 then ((tenorlaw5_awake.f k).bind fun t352 => (some t352)) else (some false))) else (if x11 = bt327.1 then ((tenorlaw5_awake.f k).bind fun t353 => (some t353)) else (some false))) else (if x11 = bt327.1 then ((tenorlaw5_awake.f k).bind fun t354 => (some t354)) else (some false))) else (if x11 = bt327.1 then ((tenorlaw5_awake.f k).bind fun t355 => (some t355)) else (some false))) else (if bt323.1 = (wrap64 (x9 + 1)) then (if bt323.2.1 = 1 then (some false) else (some false)) else (some false))) else (if bt323.1 = (wrap64 (x9 + 1)) then (if bt323.2.1 = 1 then (if bt323.2.2.1 = 1 then (if x10 = 12 then (if x11 = 31 then ((tenorlaw5_awake.f k).bind fun t356 => (some t356)) else (some false)) else (some false)) else (some false)) else (some false)) else (some false)))) else (if bt323.2.1 = (wrap64 (x10 + 1)) then (if bt323.2.2.1 = 1 then (if bt323.1 = (wrap64 (x9 + 1)) then (if bt323.2.1 = 1 then (if x10 = 12 then (if x11 = bt327.1 then ((tenorlaw5_awake.f k).bind fun t357 => (some t357)) else (if x11 = 31 then ((tenorlaw5_awake.f k).bind fun t358 => (some t358)) else (some false))) else (if x11 = bt327.1 then ((tenorlaw5_awake.f k).bind fun t359 => (some t359)) else (some false))) else (if x11 = bt327.1 then ((tenorlaw5_awake.f k).bind fun t360 => (some t360)) else (some false))) else (if x11 = bt327.1 then ((tenorlaw5_awake.f k).bind fun t361 => (some t361)) else (some false))) else (if bt323.1 = (wrap64 (x9 + 1)) then (if bt323.2.1 = 1 then (some false) else (some false)) else (some false))) else (if bt323.1 = (wrap64 (x9 + 1)) then (if bt323.2.1 = 1 then (if bt323.2.2.1 = 1 then (if x10 = 12 then (if x11 = 31 then ((tenorlaw5_awake.f k).bind fun t362 => (some t362)) else (some false)) else (some false)) else (some false)) else (some false)) else (some false)))) else (if bt323.1 = (wrap64 (x9 + 1)) then (if bt323.2.1 = 1 then (if bt323.2.2.1 = 1 then (if x10 = 12 then (if x11 = 31 then ((tenorlaw5_awake.f k).bind fun t363 => (some t363)) else (some false)) else (some false)) else (some false)) else (some false)) else (some false))) else (some false)) else (some false)) else (some false)) else (some false)) else (some false)))))))
def tenorlaw5_DateBack.f (k : Nat) (a0 : Int) : Option (Bool) := (tenorlaw5_isDay.f a0).bind fun t304 => (if t304 = true then ((date_Civil.f k a0).bind fun bt312 => ((date_Of.f k bt312.1 bt312.2.1 bt312.2.2.1).bind fun bt316 => ((date_Print.f a0).bind fun bt318 => ((date_Parse.f k bt318.1).bind fun bt320 => (if bt312.2.2.2 = 0 then (if bt316.2 = 0 then (if bt318.2 = 0 then (if bt320.2 = 0 then (if bt316.1 = a0 then (tenorlaw5_DateBack.j0 k a0 bt312.1 bt312.2.1 bt312.2.2.1 (bt320.1 != a0)) else (tenorlaw5_DateBack.j0 k a0 bt312.1 bt312.2.1 bt312.2.2.1 true)) else (tenorlaw5_DateBack.j0 k a0 bt312.1 bt312.2.1 bt312.2.2.1 true)) else (tenorlaw5_DateBack.j0 k a0 bt312.1 bt312.2.1 bt312.2.2.1 true)) else (tenorlaw5_DateBack.j0 k a0 bt312.1 bt312.2.1 bt312.2.2.1 true)) else (tenorlaw5_DateBack.j0 k a0 bt312.1 bt312.2.1 bt312.2.2.1 true)))))) else ((date_Civil.f k a0).bind fun bt305 => ((date_Print.f a0).bind fun bt309 => (if bt305.2.2.2 = 51 then (if bt309.2 = 51 then ((tenorlaw5_awake.f k).bind fun t311 => (some t311)) else (some false)) else (some false)))))
theorem tenorlaw5_DateBack.mono_l : ∀ k, (∀ y0 y1 y2 y3 y4, LeO (tenorlaw5_DateBack.j0 k y0 y1 y2 y3 y4) (tenorlaw5_DateBack.j0 (k + 1) y0 y1 y2 y3 y4))
 | 0 => fun _ _ _ _ _ r h => by simp [tenorlaw5_DateBack.j0] at h
 | k + 1 => by
  have ih0 := tenorlaw5_DateBack.mono_l k
  ·
   intro y0 y1 y2 y3 y4
   unfold tenorlaw5_DateBack.j0
   repeat' first
   | (with_reducible exact ih0 _ _ _ _ _)
   | (with_reducible exact date_Civil.mono _ _)
   | (with_reducible exact date_Of.mono _ _ _ _)
   | (with_reducible exact date_Parse.mono _ _)
   | (with_reducible exact tenorlaw5_awake.mono _)
   | (with_reducible exact LeO.refl _)
   | (with_reducible exact LeO.none _)
   | (with_reducible refine LeO.ite ?_ ?_)
   | (with_reducible refine LeO.bind ?_ (fun _ => ?_))
   | exact ih0 _ _ _ _ _
   | exact date_Civil.mono _ _
   | exact date_Of.mono _ _ _ _
   | exact date_Parse.mono _ _
   | exact tenorlaw5_awake.mono _
   | exact LeO.none _
   | refine LeO.ite ?_ ?_
   | refine LeO.bind ?_ (fun _ => ?_)
theorem tenorlaw5_DateBack.mono : ∀ a0 k, LeO (tenorlaw5_DateBack.f k a0) (tenorlaw5_DateBack.f (k + 1) a0) := by
 intro a0 k
 have ih0 := tenorlaw5_DateBack.mono_l k
 unfold tenorlaw5_DateBack.f
 repeat' first
   | (with_reducible exact ih0 _ _ _ _ _)
   | (with_reducible exact date_Civil.mono _ _)
   | (with_reducible exact date_Of.mono _ _ _ _)
   | (with_reducible exact date_Parse.mono _ _)
   | (with_reducible exact tenorlaw5_awake.mono _)
   | (with_reducible exact LeO.refl _)
   | (with_reducible exact LeO.none _)
   | (with_reducible refine LeO.ite ?_ ?_)
   | (with_reducible refine LeO.bind ?_ (fun _ => ?_))
   | exact ih0 _ _ _ _ _
   | exact date_Civil.mono _ _
   | exact date_Of.mono _ _ _ _
   | exact date_Parse.mono _ _
   | exact tenorlaw5_awake.mono _
   | exact LeO.none _
   | refine LeO.ite ?_ ?_
   | refine LeO.bind ?_ (fun _ => ?_)
set_option maxHeartbeats 8000000 in
set_option maxRecDepth 100000 in
theorem tenorlaw5_DateBack.calls (k : Nat) (a0 : Int) (r : Bool) (w : World) (HTB : Lib.TabBelow Tryd.prog w.heap.size w "internal/strconv.uint64pow10" .u64 Lib.pow10Tab) (h : tenorlaw5_DateBack.f k a0 = some r) (HT : r = true) :
  Calls Tryd.prog 8 #[.int .i64 a0] w fun e w' => e = .returned (.bool r) ∧ Below w.heap.size w w' := by
 have HB := Aside0.mk (Below.refl w.heap.size w)
 have HTA := Aside0.mk HTB;clear HTB
 have H : ((tenorlaw5_isDay.f a0).bind fun t304 => (if t304 = true then ((date_Civil.f k a0).bind fun bt312 => ((date_Of.f k bt312.1 bt312.2.1 bt312.2.2.1).bind fun bt316 => ((date_Print.f a0).bind fun bt318 => ((date_Parse.f k bt318.1).bind fun bt320 => (if bt312.2.2.2 = 0 then (if bt316.2 = 0 then (if bt318.2 = 0 then (if bt320.2 = 0 then (if bt316.1 = a0 then (tenorlaw5_DateBack.j0 k a0 bt312.1 bt312.2.1 bt312.2.2.1 (bt320.1 != a0)) else (tenorlaw5_DateBack.j0 k a0 bt312.1 bt312.2.1 bt312.2.2.1 true)) else (tenorlaw5_DateBack.j0 k a0 bt312.1 bt312.2.1 bt312.2.2.1 true)) else (tenorlaw5_DateBack.j0 k a0 bt312.1 bt312.2.1 bt312.2.2.1 true)) else (tenorlaw5_DateBack.j0 k a0 bt312.1 bt312.2.1 bt312.2.2.1 true)) else (tenorlaw5_DateBack.j0 k a0 bt312.1 bt312.2.1 bt312.2.2.1 true)))))) else ((date_Civil.f k a0).bind fun bt305 => ((date_Print.f a0).bind fun bt309 => (if bt305.2.2.2 = 51 then (if bt309.2 = 51 then ((tenorlaw5_awake.f k).bind fun t311 => (some t311)) else (some false)) else (some false)))))) = some r := h
 clear h;replace H := Option.bind_eq_some_iff.mp H
 obtain ⟨t304, A20, H⟩ := H
 replace H : (if t304 = true then ((date_Civil.f k a0).bind fun bt312 => ((date_Of.f k bt312.1 bt312.2.1 bt312.2.2.1).bind fun bt316 => ((date_Print.f a0).bind fun bt318 => ((date_Parse.f k bt318.1).bind fun bt320 => (if bt312.2.2.2 = 0 then (if bt316.2 = 0 then (if bt318.2 = 0 then (if bt320.2 = 0 then (if bt316.1 = a0 then (tenorlaw5_DateBack.j0 k a0 bt312.1 bt312.2.1 bt312.2.2.1 (bt320.1 != a0)) else (tenorlaw5_DateBack.j0 k a0 bt312.1 bt312.2.1 bt312.2.2.1 true)) else (tenorlaw5_DateBack.j0 k a0 bt312.1 bt312.2.1 bt312.2.2.1 true)) else (tenorlaw5_DateBack.j0 k a0 bt312.1 bt312.2.1 bt312.2.2.1 true)) else (tenorlaw5_DateBack.j0 k a0 bt312.1 bt312.2.1 bt312.2.2.1 true)) else (tenorlaw5_DateBack.j0 k a0 bt312.1 bt312.2.1 bt312.2.2.1 true)))))) else ((date_Civil.f k a0).bind fun bt305 => ((date_Print.f a0).bind fun bt309 => (if bt305.2.2.2 = 51 then (if bt309.2 = 51 then ((tenorlaw5_awake.f k).bind fun t311 => (some t311)) else (some false)) else (some false))))) = some r := H
 have A2 := Aside0.mk A20;clear A20
 by_cases c3 : t304 = true
 ·
  subst c3
  have H1 : ((date_Civil.f k a0).bind fun bt312 => ((date_Of.f k bt312.1 bt312.2.1 bt312.2.2.1).bind fun bt316 => ((date_Print.f a0).bind fun bt318 => ((date_Parse.f k bt318.1).bind fun bt320 => (if bt312.2.2.2 = 0 then (if bt316.2 = 0 then (if bt318.2 = 0 then (if bt320.2 = 0 then (if bt316.1 = a0 then (tenorlaw5_DateBack.j0 k a0 bt312.1 bt312.2.1 bt312.2.2.1 (bt320.1 != a0)) else (tenorlaw5_DateBack.j0 k a0 bt312.1 bt312.2.1 bt312.2.2.1 true)) else (tenorlaw5_DateBack.j0 k a0 bt312.1 bt312.2.1 bt312.2.2.1 true)) else (tenorlaw5_DateBack.j0 k a0 bt312.1 bt312.2.1 bt312.2.2.1 true)) else (tenorlaw5_DateBack.j0 k a0 bt312.1 bt312.2.1 bt312.2.2.1 true)) else (tenorlaw5_DateBack.j0 k a0 bt312.1 bt312.2.1 bt312.2.2.1 true)))))) = some r := by rw [if_pos rfl] at H; exact H
  clear H;have H := H1;clear H1;replace H := Option.bind_eq_some_iff.mp H
  obtain ⟨⟨t312, t313, t314, t315⟩, A40, H⟩ := H
  replace H : ((date_Of.f k t312 t313 t314).bind fun bt316 => ((date_Print.f a0).bind fun bt318 => ((date_Parse.f k bt318.1).bind fun bt320 => (if t315 = 0 then (if bt316.2 = 0 then (if bt318.2 = 0 then (if bt320.2 = 0 then (if bt316.1 = a0 then (tenorlaw5_DateBack.j0 k a0 t312 t313 t314 (bt320.1 != a0)) else (tenorlaw5_DateBack.j0 k a0 t312 t313 t314 true)) else (tenorlaw5_DateBack.j0 k a0 t312 t313 t314 true)) else (tenorlaw5_DateBack.j0 k a0 t312 t313 t314 true)) else (tenorlaw5_DateBack.j0 k a0 t312 t313 t314 true)) else (tenorlaw5_DateBack.j0 k a0 t312 t313 t314 true))))) = some r := H
  have A4 := Aside0.mk A40;clear A40;replace H := Option.bind_eq_some_iff.mp H
  obtain ⟨⟨t316, t317⟩, A50, H⟩ := H
  replace H : ((date_Print.f a0).bind fun bt318 => ((date_Parse.f k bt318.1).bind fun bt320 => (if t315 = 0 then (if t317 = 0 then (if bt318.2 = 0 then (if bt320.2 = 0 then (if t316 = a0 then (tenorlaw5_DateBack.j0 k a0 t312 t313 t314 (bt320.1 != a0)) else (tenorlaw5_DateBack.j0 k a0 t312 t313 t314 true)) else (tenorlaw5_DateBack.j0 k a0 t312 t313 t314 true)) else (tenorlaw5_DateBack.j0 k a0 t312 t313 t314 true)) else (tenorlaw5_DateBack.j0 k a0 t312 t313 t314 true)) else (tenorlaw5_DateBack.j0 k a0 t312 t313 t314 true)))) = some r := H
  have A5 := Aside0.mk A50;clear A50;replace H := Option.bind_eq_some_iff.mp H
  obtain ⟨⟨t318, t319⟩, A60, H⟩ := H
  replace H : ((date_Parse.f k t318).bind fun bt320 => (if t315 = 0 then (if t317 = 0 then (if t319 = 0 then (if bt320.2 = 0 then (if t316 = a0 then (tenorlaw5_DateBack.j0 k a0 t312 t313 t314 (bt320.1 != a0)) else (tenorlaw5_DateBack.j0 k a0 t312 t313 t314 true)) else (tenorlaw5_DateBack.j0 k a0 t312 t313 t314 true)) else (tenorlaw5_DateBack.j0 k a0 t312 t313 t314 true)) else (tenorlaw5_DateBack.j0 k a0 t312 t313 t314 true)) else (tenorlaw5_DateBack.j0 k a0 t312 t313 t314 true))) = some r := H
  have A6 := Aside0.mk A60;clear A60;replace H := Option.bind_eq_some_iff.mp H
  obtain ⟨⟨t320, t321⟩, A70, H⟩ := H
  replace H : (if t315 = 0 then (if t317 = 0 then (if t319 = 0 then (if t321 = 0 then (if t316 = a0 then (tenorlaw5_DateBack.j0 k a0 t312 t313 t314 (t320 != a0)) else (tenorlaw5_DateBack.j0 k a0 t312 t313 t314 true)) else (tenorlaw5_DateBack.j0 k a0 t312 t313 t314 true)) else (tenorlaw5_DateBack.j0 k a0 t312 t313 t314 true)) else (tenorlaw5_DateBack.j0 k a0 t312 t313 t314 true)) else (tenorlaw5_DateBack.j0 k a0 t312 t313 t314 true)) = some r := H
  have A7 := Aside0.mk A70;clear A70;have HC8 := Aside0.mk H;clear H
  go_enter Tryd.func8, Tryd.ntmps8
  go_upto_region 9 with (first | ((with_reducible refine gate_callee (f := 31) rfl ?_); refine goesL_ (some 33) rfl rfl Tryd.func31 (by kernel_rfl) rfl #[.int .i64 a0] rfl (by (try simp only [List.map_toArray, List.map_cons, List.map_nil]); first | done | rfl | (simp only [List.length_drop, List.length_take]; rfl)) ?_; (with_reducible refine (tenorlaw5_isDay.calls a0 true _ A2.out).mono ?_); rintro e w' ⟨rfl, ⟨nd, rfl⟩⟩; refine ⟨_, rfl, ?_⟩) | ((with_reducible refine gate_callee (f := 23) rfl ?_); refine goesL_ (some 58) rfl rfl Tryd.func23 (by kernel_rfl) rfl #[.int .i64 a0] rfl (by (try simp only [List.map_toArray, List.map_cons, List.map_nil]); first | done | rfl | (simp only [List.length_drop, List.length_take]; rfl)) ?_; (with_reducible refine (date_Civil.calls k a0 t312 t313 t314 t315 _ A4.out).mono ?_); rintro e w' ⟨rfl, ⟨nd, rfl⟩⟩; refine ⟨_, rfl, ?_⟩) | ((with_reducible refine gate_callee (f := 21) rfl ?_); refine goesL_ (some 67) rfl rfl Tryd.func21 (by kernel_rfl) rfl #[.int .i64 t312, .int .i64 t313, .int .i64 t314] rfl (by (try simp only [List.map_toArray, List.map_cons, List.map_nil]); first | done | rfl | (simp only [List.length_drop, List.length_take]; rfl)) ?_; (with_reducible refine (date_Of.calls k t312 t313 t314 t316 t317 _ A5.out).mono ?_); rintro e w' ⟨rfl, ⟨nd, rfl⟩⟩; refine ⟨_, rfl, ?_⟩) | ((with_reducible refine gate_callee (f := 17) rfl ?_); refine goesL_ (some 72) rfl rfl Tryd.func17 (by kernel_rfl) rfl #[.int .i64 a0] rfl (by (try simp only [List.map_toArray, List.map_cons, List.map_nil]); first | done | rfl | (simp only [List.length_drop, List.length_take]; rfl)) ?_; (with_reducible refine (date_Print.calls a0 t318 t319 _ A6.out (tab_on HTA.out (by repeat (first | (with_reducible first | exact HB.out | apply below_alloc | apply pw_below_drewN | apply below_drew1) | exact HB.out)))).mono ?_); rintro e w9 ⟨rfl, hb⟩; refine ⟨_, rfl, ?_⟩; have n0_ := Aside0.mk (below_step (by repeat (first | (with_reducible first | exact HB.out | apply below_alloc | apply pw_below_drewN | apply below_drew1) | exact HB.out)) hb); clear HB; have HB := n0_; clear n0_; (try clear hb); (try clear hb2); (try clear hk); (try clear hi)) | ((with_reducible refine gate_callee (f := 15) rfl ?_); refine goesL_ (some 77) rfl rfl Tryd.func15 (by kernel_rfl) rfl #[.string t318] rfl (by (try simp only [List.map_toArray, List.map_cons, List.map_nil]); first | done | rfl | (simp only [List.length_drop, List.length_take]; rfl)) ?_; (with_reducible refine (date_Parse.calls k t318 t320 t321 _ A7.out).mono ?_); rintro e w10 ⟨rfl, hb⟩; refine ⟨_, rfl, ?_⟩; have n0_ := Aside0.mk (below_step (by repeat (first | (with_reducible first | exact HB.out | apply below_alloc | apply pw_below_drewN | apply below_drew1) | exact HB.out)) hb); clear HB; have HB := n0_; clear n0_; (try clear hb); (try clear hb2); (try clear hk); (try clear hi)))
  (try simp only [Act.put, List.setIfInBounds_toArray, List.set_cons_zero, List.set_cons_succ])
  go_cut [103] (fun v103 wc => ∃ (kq : Nat) (x103_7 : Bool), v103 = .bool x103_7 ∧ Aside0 (tenorlaw5_DateBack.j0 kq a0 t312 t313 t314 x103_7 = some r) ∧ Aside0 (kq ≤ k) ∧ Aside0 (Below w.heap.size w wc))
  case first =>
   have H := HC8.out;clear HC8
   by_cases c11 : t315 = 0
   ·
    rw [if_pos c11] at H
    have c11b0 : (t315 == 0) = true := beq_iff_eq.mpr c11
    have c11b1 : (t315 != 0) = false := bne_eq_false_iff_eq.mpr c11
    clear c11
    (first | rw [c11b0] | (simp only [i64_w, i32_w]; rw [c11b0]) | skip)
    by_cases c12 : t317 = 0
    ·
     rw [if_pos c12] at H
     have c12b0 : (t317 == 0) = true := beq_iff_eq.mpr c12
     have c12b1 : (t317 != 0) = false := bne_eq_false_iff_eq.mpr c12
     clear c12
     by_cases c13 : t319 = 0
     ·
      rw [if_pos c13] at H
      have c13b0 : (t319 == 0) = true := beq_iff_eq.mpr c13
      have c13b1 : (t319 != 0) = false := bne_eq_false_iff_eq.mpr c13
      clear c13
      by_cases c14 : t321 = 0
      ·
       rw [if_pos c14] at H
       have c14b0 : (t321 == 0) = true := beq_iff_eq.mpr c14
       have c14b1 : (t321 != 0) = false := bne_eq_false_iff_eq.mpr c14
       clear c14
       by_cases c15 : t316 = a0
       ·
        rw [if_pos c15] at H
        have c15b0 : (t316 == a0) = true := beq_iff_eq.mpr c15
        have c15b1 : (t316 != a0) = false := bne_eq_false_iff_eq.mpr c15
        clear c15;have H' := Aside0.mk H;clear H
        go_wp2
        go_meet
        case rel => exact ⟨_, ((t320 != a0)), (by first | rfl | (simp; done) | (simp [*]; done)), H', ⟨by first | omega | exact Nat.le_refl _⟩, ⟨by repeat (first | (with_reducible first | exact HB.out | apply below_alloc | apply pw_below_drewN | apply below_drew1) | exact HB.out)⟩⟩
       ·
        rw [if_neg c15] at H
        have c15b0 : (t316 == a0) = false := beq_eq_false_iff_ne.mpr c15
        have c15b1 : (t316 != a0) = true := bne_iff_ne.mpr c15
        have H' := Aside0.mk H;clear H
        go_wp2
        go_meet
        case rel => exact ⟨_, (true), (by first | rfl | (simp; done) | (simp [*]; done)), H', ⟨by first | omega | exact Nat.le_refl _⟩, ⟨by repeat (first | (with_reducible first | exact HB.out | apply below_alloc | apply pw_below_drewN | apply below_drew1) | exact HB.out)⟩⟩
      ·
       rw [if_neg c14] at H
       have c14b0 : (t321 == 0) = false := beq_eq_false_iff_ne.mpr c14
       have c14b1 : (t321 != 0) = true := bne_iff_ne.mpr c14
       have H' := Aside0.mk H;clear H
       go_wp2
       go_meet
       case rel => exact ⟨_, (true), (by first | rfl | (simp; done) | (simp [*]; done)), H', ⟨by first | omega | exact Nat.le_refl _⟩, ⟨by repeat (first | (with_reducible first | exact HB.out | apply below_alloc | apply pw_below_drewN | apply below_drew1) | exact HB.out)⟩⟩
     ·
      rw [if_neg c13] at H
      have c13b0 : (t319 == 0) = false := beq_eq_false_iff_ne.mpr c13
      have c13b1 : (t319 != 0) = true := bne_iff_ne.mpr c13
      have H' := Aside0.mk H;clear H
      go_wp2
      go_meet
      case rel => exact ⟨_, (true), (by first | rfl | (simp; done) | (simp [*]; done)), H', ⟨by first | omega | exact Nat.le_refl _⟩, ⟨by repeat (first | (with_reducible first | exact HB.out | apply below_alloc | apply pw_below_drewN | apply below_drew1) | exact HB.out)⟩⟩
    ·
     rw [if_neg c12] at H
     have c12b0 : (t317 == 0) = false := beq_eq_false_iff_ne.mpr c12
     have c12b1 : (t317 != 0) = true := bne_iff_ne.mpr c12
     have H' := Aside0.mk H;clear H
     go_wp2
     go_meet
     case rel => exact ⟨_, (true), (by first | rfl | (simp; done) | (simp [*]; done)), H', ⟨by first | omega | exact Nat.le_refl _⟩, ⟨by repeat (first | (with_reducible first | exact HB.out | apply below_alloc | apply pw_below_drewN | apply below_drew1) | exact HB.out)⟩⟩
   ·
    rw [if_neg c11] at H
    have c11b0 : (t315 == 0) = false := beq_eq_false_iff_ne.mpr c11
    have c11b1 : (t315 != 0) = true := bne_iff_ne.mpr c11
    (first | rw [c11b0] | (simp only [i64_w, i32_w]; rw [c11b0]) | skip)
    have H' := Aside0.mk H;clear H
    go_wp2
    go_meet
    case rel => exact ⟨_, (true), (by first | rfl | (simp; done) | (simp [*]; done)), H', ⟨by first | omega | exact Nat.le_refl _⟩, ⟨by repeat (first | (with_reducible first | exact HB.out | apply below_alloc | apply pw_below_drewN | apply below_drew1) | exact HB.out)⟩⟩
  case rest =>
   clear HC8
   obtain ⟨kq, x103_7, rfl, HA, HJ7, HB⟩ := hcut
   cases kq with
   | zero => exact absurd HA.out (by simp [tenorlaw5_DateBack.j0])
   | succ kj7 =>
    have H := HA.out;clear HA
    simp only [tenorlaw5_DateBack.j0] at H
    by_cases c16 : x103_7 = true
    ·
     subst c16
     have H1 : (some false) = some r := by rw [if_pos rfl] at H; exact H
     clear H;have H := H1;clear H1
     exact absurd (H.trans (congrArg some HT)) (by decide)
    ·
     replace c16 := Bool.eq_false_iff.mpr c16;subst c16
     have H1 : (if a0 = 109572 then (if t312 = 2199 then (if t313 = 12 then (if t314 = 31 then ((tenorlaw5_awake.f kj7).bind fun t322 => (some t322)) else (some false)) else (some false)) else (some false)) else ((date_Civil.f kj7 (wrap64 (a0 + 1))).bind fun bt323 => ((date_Length.f t312 t313).bind fun bt327 => ((date_Weekday.f a0).bind fun bt329 => ((date_Weekday.f (wrap64 (a0 + 1))).bind fun bt331 => (if bt323.2.2.2 = 0 then (if bt327.2 = 0 then (if bt329.2 = 0 then (if bt331.2 = 0 then (if bt331.1 = (Int.tmod (wrap64 (bt329.1 + 1)) 7) then (if bt323.1 = t312 then (if bt323.2.1 = t313 then (if bt323.2.2.1 = (wrap64 (t314 + 1)) then (if bt323.2.1 = (wrap64 (t313 + 1)) then (if bt323.2.2.1 = 1 then (if bt323.1 = (wrap64 (t312 + 1)) then (if bt323.2.1 = 1 then (if t313 = 12 then (if t314 < bt327.1 then ((tenorlaw5_awake.f kj7).bind fun t333 => (some t333)) else (if t314 = bt327.1 then ((tenorlaw5_awake.f kj7).bind fun t334 => (some t334)) else (if t314 = 31 then ((tenorlaw5_awake.f kj7).bind fun t335 => (some t335)) else (some false)))) else (if t314 < bt327.1 then ((tenorlaw5_awake.f kj7).bind fun t336 => (some t336)) else (if t314 = bt327.1 then ((tenorlaw5_awake.f kj7).bind fun t337 => (some t337)) else (some false)))) else (if t314 < bt327.1 then ((tenorlaw5_awake.f kj7).bind fun t338 => (some t338)) else (if t314 = bt327.1 then ((tenorlaw5_awake.f kj7).bind fun t339 => (some t339)) else (some false)))) else (if t314 < bt327.1 then ((tenorlaw5_awake.f kj7).bind fun t340 => (some t340)) else (if t314 = bt327.1 then ((tenorlaw5_awake.f kj7).bind fun t341 => (some t341)) else (some false)))) else (if bt323.1 = (wrap64 (t312 + 1)) then (if bt323.2.1 = 1 then (if t314 < bt327.1 then ((tenorlaw5_awake.f kj7).bind fun t342 => (some t342)) else (some false)) else (if t314 < bt327.1 then ((tenorlaw5_awake.f kj7).bind fun t343 => (some t343)) else (some false))) else (if t314 < bt327.1 then ((tenorlaw5_awake.f kj7).bind fun t344 => (some t344)) else (some false)))) else (if bt323.1 = (wrap64 (t312 + 1)) then (if bt323.2.1 = 1 then (if bt323.2.2.1 = 1 then (if t313 = 12 then (if t314 < bt327.1 then ((tenorlaw5_awake.f kj7).bind fun t345 => (some t345)) else (if t314 = 31 then ((tenorlaw5_awake.f kj7).bind fun t346 => (some t346)) else (some false))) else (if t314 < bt327.1 then ((tenorlaw5_awake.f kj7).bind fun t347 => (some t347)) else (some false))) else (if t314 < bt327.1 then ((tenorlaw5_awake.f kj7).bind fun t348 => (some t348)) else (some false))) else (if t314 < bt327.1 then ((tenorlaw5_awake.f kj7).bind fun t349 => (some t349)) else (some false))) else (if t314 < bt327.1 then ((tenorlaw5_awake.f kj7).bind fun t350 => (some t350)) else (some false)))) else (if bt323.2.1 = (wrap64 (t313 + 1)) then (if bt323.2.2.1 = 1 then (if bt323.1 = (wrap64 (t312 + 1)) then (if bt323.2.1 = 1 then (if t313 = 12 then (if t314 = bt327.1 then ((tenorlaw5_awake.f kj7).bind fun t351 => (some t351)) else (if t314 = 31 then ((tenorlaw5_awake.f kj7).bind fun t352 => (some t352)) else (some false))) else (if t314 = bt327.1 then ((tenorlaw5_awake.f kj7).bind fun t353 => (some t353)) else (some false))) else (if t314 = bt327.1 then ((tenorlaw5_awake.f kj7).bind fun t354 => (some t354)) else (some false))) else (if t314 = bt327.1 then ((tenorlaw5_awake.f kj7).bind fun t355 => (some t355)) else (some false))) else (if bt323.1 = (wrap64 (t312 + 1)) then (if bt323.2.1 = 1 then (some false) else (some false)) else (some false))) else (if bt323.1 = (wrap64 (t312 + 1)) then (if bt323.2.1 = 1 then (if bt323.2.2.1 = 1 then (if t313 = 12 then (if t314 = 31 then ((tenorlaw5_awake.f kj7).bind fun t356 => (some t356)) else (some false)) else (some false)) else (some false)) else (some false)) else (some false)))) else (if bt323.2.1 = (wrap64 (t313 + 1)) then (if bt323.2.2.1 = 1 then (if bt323.1 = (wrap64 (t312 + 1)) then (if bt323.2.1 = 1 then (if t313 = 12 then (if t314 = bt327.1 then ((tenorlaw5_awake.f kj7).bind fun t357 => (some t357)) else (if t314 = 31 then ((tenorlaw5_awake.f kj7).bind fun t358 => (some t358)) else (some false))) else (if t314 = bt327.1 then ((tenorlaw5_awake.f kj7).bind fun t359 => (some t359)) else (some false))) else (if t314 = bt327.1 then ((tenorlaw5_awake.f kj7).bind fun t360 => (some t360)) else (some false))) else (if t314 = bt327.1 then ((tenorlaw5_awake.f kj7).bind fun t361 => (some t361)) else (some false))) else (if bt323.1 = (wrap64 (t312 + 1)) then (if bt323.2.1 = 1 then (some false) else (some false)) else (some false))) else (if bt323.1 = (wrap64 (t312 + 1)) then (if bt323.2.1 = 1 then (if bt323.2.2.1 = 1 then (if t313 = 12 then (if t314 = 31 then ((tenorlaw5_awake.f kj7).bind fun t362 => (some t362)) else (some false)) else (some false)) else (some false)) else (some false)) else (some false)))) else (if bt323.1 = (wrap64 (t312 + 1)) then (if bt323.2.1 = 1 then (if bt323.2.2.1 = 1 then (if t313 = 12 then (if t314 = 31 then ((tenorlaw5_awake.f kj7).bind fun t363 => (some t363)) else (some false)) else (some false)) else (some false)) else (some false)) else (some false))) else (some false)) else (some false)) else (some false)) else (some false)) else (some false))))))) = some r := by rw [if_neg (show ¬ (false = true) by decide)] at H; exact H
     clear H;have H := H1;clear H1
     by_cases c17 : a0 = 109572
     ·
      rw [if_pos c17] at H
      have c17b0 : (a0 == 109572) = true := beq_iff_eq.mpr c17
      have c17b1 : (a0 != 109572) = false := bne_eq_false_iff_eq.mpr c17
      clear c17
      by_cases c18 : t312 = 2199
      ·
       rw [if_pos c18] at H
       have c18b0 : (t312 == 2199) = true := beq_iff_eq.mpr c18
       have c18b1 : (t312 != 2199) = false := bne_eq_false_iff_eq.mpr c18
       clear c18
       by_cases c19 : t313 = 12
       ·
        rw [if_pos c19] at H
        have c19b0 : (t313 == 12) = true := beq_iff_eq.mpr c19
        have c19b1 : (t313 != 12) = false := bne_eq_false_iff_eq.mpr c19
        clear c19
        by_cases c20 : t314 = 31
        ·
         rw [if_pos c20] at H
         have c20b0 : (t314 == 31) = true := beq_iff_eq.mpr c20
         have c20b1 : (t314 != 31) = false := bne_eq_false_iff_eq.mpr c20
         clear c20;replace H := Option.bind_eq_some_iff.mp H
         obtain ⟨t322, A210, H⟩ := H
         replace H : (some t322) = some r := H
         have A21 := Aside0.mk A210;clear A210
         obtain rfl := Option.some.inj H
         go_wp2_with (first | (go_at_call 14; (with_reducible refine (tenorlaw5_awake.calls kj7  t322 _ A21.out).mono ?_); rintro e w22 ⟨rfl, hb⟩; have n0_ := Aside0.mk (below_step (by repeat (first | (with_reducible first | exact HB.out | apply below_alloc | apply pw_below_drewN | apply below_drew1) | exact HB.out)) hb); clear HB; have HB := n0_; clear n0_; (try clear hb); (try clear hb2); (try clear hk); (try clear hi)))
         go_ret
         exact ⟨by first | rfl | (simp [errW_none, errW_some] <;> rfl) | (simp [*, errW_none, errW_some] <;> rfl), by repeat (first | (with_reducible first | exact HB.out | apply below_alloc | apply pw_below_drewN | apply below_drew1) | exact HB.out)⟩
        ·
         rw [if_neg c20] at H
         have c20b0 : (t314 == 31) = false := beq_eq_false_iff_ne.mpr c20
         have c20b1 : (t314 != 31) = true := bne_iff_ne.mpr c20
         exact absurd (H.trans (congrArg some HT)) (by decide)
       ·
        rw [if_neg c19] at H
        have c19b0 : (t313 == 12) = false := beq_eq_false_iff_ne.mpr c19
        have c19b1 : (t313 != 12) = true := bne_iff_ne.mpr c19
        exact absurd (H.trans (congrArg some HT)) (by decide)
      ·
       rw [if_neg c18] at H
       have c18b0 : (t312 == 2199) = false := beq_eq_false_iff_ne.mpr c18
       have c18b1 : (t312 != 2199) = true := bne_iff_ne.mpr c18
       exact absurd (H.trans (congrArg some HT)) (by decide)
     ·
      rw [if_neg c17] at H
      have c17b0 : (a0 == 109572) = false := beq_eq_false_iff_ne.mpr c17
      have c17b1 : (a0 != 109572) = true := bne_iff_ne.mpr c17
      replace H := Option.bind_eq_some_iff.mp H
      obtain ⟨⟨t323, t324, t325, t326⟩, A230, H⟩ := H
      replace H : ((date_Length.f t312 t313).bind fun bt327 => ((date_Weekday.f a0).bind fun bt329 => ((date_Weekday.f (wrap64 (a0 + 1))).bind fun bt331 => (if t326 = 0 then (if bt327.2 = 0 then (if bt329.2 = 0 then (if bt331.2 = 0 then (if bt331.1 = (Int.tmod (wrap64 (bt329.1 + 1)) 7) then (if t323 = t312 then (if t324 = t313 then (if t325 = (wrap64 (t314 + 1)) then (if t324 = (wrap64 (t313 + 1)) then (if t325 = 1 then (if t323 = (wrap64 (t312 + 1)) then (if t324 = 1 then (if t313 = 12 then (if t314 < bt327.1 then ((tenorlaw5_awake.f kj7).bind fun t333 => (some t333)) else (if t314 = bt327.1 then ((tenorlaw5_awake.f kj7).bind fun t334 => (some t334)) else (if t314 = 31 then ((tenorlaw5_awake.f kj7).bind fun t335 => (some t335)) else (some false)))) else (if t314 < bt327.1 then ((tenorlaw5_awake.f kj7).bind fun t336 => (some t336)) else (if t314 = bt327.1 then ((tenorlaw5_awake.f kj7).bind fun t337 => (some t337)) else (some false)))) else (if t314 < bt327.1 then ((tenorlaw5_awake.f kj7).bind fun t338 => (some t338)) else (if t314 = bt327.1 then ((tenorlaw5_awake.f kj7).bind fun t339 => (some t339)) else (some false)))) else (if t314 < bt327.1 then ((tenorlaw5_awake.f kj7).bind fun t340 => (some t340)) else (if t314 = bt327.1 then ((tenorlaw5_awake.f kj7).bind fun t341 => (some t341)) else (some false)))) else (if t323 = (wrap64 (t312 + 1)) then (if t324 = 1 then (if t314 < bt327.1 then ((tenorlaw5_awake.f kj7).bind fun t342 => (some t342)) else (some false)) else (if t314 < bt327.1 then ((tenorlaw5_awake.f kj7).bind fun t343 => (some t343)) else (some false))) else (if t314 < bt327.1 then ((tenorlaw5_awake.f kj7).bind fun t344 => (some t344)) else (some false)))) else (if t323 = (wrap64 (t312 + 1)) then (if t324 = 1 then (if t325 = 1 then (if t313 = 12 then (if t314 < bt327.1 then ((tenorlaw5_awake.f kj7).bind fun t345 => (some t345)) else (if t314 = 31 then ((tenorlaw5_awake.f kj7).bind fun t346 => (some t346)) else (some false))) else (if t314 < bt327.1 then ((tenorlaw5_awake.f kj7).bind fun t347 => (some t347)) else (some false))) else (if t314 < bt327.1 then ((tenorlaw5_awake.f kj7).bind fun t348 => (some t348)) else (some false))) else (if t314 < bt327.1 then ((tenorlaw5_awake.f kj7).bind fun t349 => (some t349)) else (some false))) else (if t314 < bt327.1 then ((tenorlaw5_awake.f kj7).bind fun t350 => (some t350)) else (some false)))) else (if t324 = (wrap64 (t313 + 1)) then (if t325 = 1 then (if t323 = (wrap64 (t312 + 1)) then (if t324 = 1 then (if t313 = 12 then (if t314 = bt327.1 then ((tenorlaw5_awake.f kj7).bind fun t351 => (some t351)) else (if t314 = 31 then ((tenorlaw5_awake.f kj7).bind fun t352 => (some t352)) else (some false))) else (if t314 = bt327.1 then ((tenorlaw5_awake.f kj7).bind fun t353 => (some t353)) else (some false))) else (if t314 = bt327.1 then ((tenorlaw5_awake.f kj7).bind fun t354 => (some t354)) else (some false))) else (if t314 = bt327.1 then ((tenorlaw5_awake.f kj7).bind fun t355 => (some t355)) else (some false))) else (if t323 = (wrap64 (t312 + 1)) then (if t324 = 1 then (some false) else (some false)) else (some false))) else (if t323 = (wrap64 (t312 + 1)) then (if t324 = 1 then (if t325 = 1 then (if t313 = 12 then (if t314 = 31 then ((tenorlaw5_awake.f kj7).bind fun t356 => (some t356)) else (some false)) else (some false)) else (some false)) else (some false)) else (some false)))) else (if t324 = (wrap64 (t313 + 1)) then (if t325 = 1 then (if t323 = (wrap64 (t312 + 1)) then (if t324 = 1 then (if t313 = 12 then (if t314 = bt327.1 then ((tenorlaw5_awake.f kj7).bind fun t357 => (some t357)) else (if t314 = 31 then ((tenorlaw5_awake.f kj7).bind fun t358 => (some t358)) else (some false))) else (if t314 = bt327.1 then ((tenorlaw5_awake.f kj7).bind fun t359 => (some t359)) else (some false))) else (if t314 = bt327.1 then ((tenorlaw5_awake.f kj7).bind fun t360 => (some t360)) else (some false))) else (if t314 = bt327.1 then ((tenorlaw5_awake.f kj7).bind fun t361 => (some t361)) else (some false))) else (if t323 = (wrap64 (t312 + 1)) then (if t324 = 1 then (some false) else (some false)) else (some false))) else (if t323 = (wrap64 (t312 + 1)) then (if t324 = 1 then (if t325 = 1 then (if t313 = 12 then (if t314 = 31 then ((tenorlaw5_awake.f kj7).bind fun t362 => (some t362)) else (some false)) else (some false)) else (some false)) else (some false)) else (some false)))) else (if t323 = (wrap64 (t312 + 1)) then (if t324 = 1 then (if t325 = 1 then (if t313 = 12 then (if t314 = 31 then ((tenorlaw5_awake.f kj7).bind fun t363 => (some t363)) else (some false)) else (some false)) else (some false)) else (some false)) else (some false))) else (some false)) else (some false)) else (some false)) else (some false)) else (some false))))) = some r := H
      have A23 := Aside0.mk A230;clear A230;replace H := Option.bind_eq_some_iff.mp H
      obtain ⟨⟨t327, t328⟩, A240, H⟩ := H
      replace H : ((date_Weekday.f a0).bind fun bt329 => ((date_Weekday.f (wrap64 (a0 + 1))).bind fun bt331 => (if t326 = 0 then (if t328 = 0 then (if bt329.2 = 0 then (if bt331.2 = 0 then (if bt331.1 = (Int.tmod (wrap64 (bt329.1 + 1)) 7) then (if t323 = t312 then (if t324 = t313 then (if t325 = (wrap64 (t314 + 1)) then (if t324 = (wrap64 (t313 + 1)) then (if t325 = 1 then (if t323 = (wrap64 (t312 + 1)) then (if t324 = 1 then (if t313 = 12 then (if t314 < t327 then ((tenorlaw5_awake.f kj7).bind fun t333 => (some t333)) else (if t314 = t327 then ((tenorlaw5_awake.f kj7).bind fun t334 => (some t334)) else (if t314 = 31 then ((tenorlaw5_awake.f kj7).bind fun t335 => (some t335)) else (some false)))) else (if t314 < t327 then ((tenorlaw5_awake.f kj7).bind fun t336 => (some t336)) else (if t314 = t327 then ((tenorlaw5_awake.f kj7).bind fun t337 => (some t337)) else (some false)))) else (if t314 < t327 then ((tenorlaw5_awake.f kj7).bind fun t338 => (some t338)) else (if t314 = t327 then ((tenorlaw5_awake.f kj7).bind fun t339 => (some t339)) else (some false)))) else (if t314 < t327 then ((tenorlaw5_awake.f kj7).bind fun t340 => (some t340)) else (if t314 = t327 then ((tenorlaw5_awake.f kj7).bind fun t341 => (some t341)) else (some false)))) else (if t323 = (wrap64 (t312 + 1)) then (if t324 = 1 then (if t314 < t327 then ((tenorlaw5_awake.f kj7).bind fun t342 => (some t342)) else (some false)) else (if t314 < t327 then ((tenorlaw5_awake.f kj7).bind fun t343 => (some t343)) else (some false))) else (if t314 < t327 then ((tenorlaw5_awake.f kj7).bind fun t344 => (some t344)) else (some false)))) else (if t323 = (wrap64 (t312 + 1)) then (if t324 = 1 then (if t325 = 1 then (if t313 = 12 then (if t314 < t327 then ((tenorlaw5_awake.f kj7).bind fun t345 => (some t345)) else (if t314 = 31 then ((tenorlaw5_awake.f kj7).bind fun t346 => (some t346)) else (some false))) else (if t314 < t327 then ((tenorlaw5_awake.f kj7).bind fun t347 => (some t347)) else (some false))) else (if t314 < t327 then ((tenorlaw5_awake.f kj7).bind fun t348 => (some t348)) else (some false))) else (if t314 < t327 then ((tenorlaw5_awake.f kj7).bind fun t349 => (some t349)) else (some false))) else (if t314 < t327 then ((tenorlaw5_awake.f kj7).bind fun t350 => (some t350)) else (some false)))) else (if t324 = (wrap64 (t313 + 1)) then (if t325 = 1 then (if t323 = (wrap64 (t312 + 1)) then (if t324 = 1 then (if t313 = 12 then (if t314 = t327 then ((tenorlaw5_awake.f kj7).bind fun t351 => (some t351)) else (if t314 = 31 then ((tenorlaw5_awake.f kj7).bind fun t352 => (some t352)) else (some false))) else (if t314 = t327 then ((tenorlaw5_awake.f kj7).bind fun t353 => (some t353)) else (some false))) else (if t314 = t327 then ((tenorlaw5_awake.f kj7).bind fun t354 => (some t354)) else (some false))) else (if t314 = t327 then ((tenorlaw5_awake.f kj7).bind fun t355 => (some t355)) else (some false))) else (if t323 = (wrap64 (t312 + 1)) then (if t324 = 1 then (some false) else (some false)) else (some false))) else (if t323 = (wrap64 (t312 + 1)) then (if t324 = 1 then (if t325 = 1 then (if t313 = 12 then (if t314 = 31 then ((tenorlaw5_awake.f kj7).bind fun t356 => (some t356)) else (some false)) else (some false)) else (some false)) else (some false)) else (some false)))) else (if t324 = (wrap64 (t313 + 1)) then (if t325 = 1 then (if t323 = (wrap64 (t312 + 1)) then (if t324 = 1 then (if t313 = 12 then (if t314 = t327 then ((tenorlaw5_awake.f kj7).bind fun t357 => (some t357)) else (if t314 = 31 then ((tenorlaw5_awake.f kj7).bind fun t358 => (some t358)) else (some false))) else (if t314 = t327 then ((tenorlaw5_awake.f kj7).bind fun t359 => (some t359)) else (some false))) else (if t314 = t327 then ((tenorlaw5_awake.f kj7).bind fun t360 => (some t360)) else (some false))) else (if t314 = t327 then ((tenorlaw5_awake.f kj7).bind fun t361 => (some t361)) else (some false))) else (if t323 = (wrap64 (t312 + 1)) then (if t324 = 1 then (some false) else (some false)) else (some false))) else (if t323 = (wrap64 (t312 + 1)) then (if t324 = 1 then (if t325 = 1 then (if t313 = 12 then (if t314 = 31 then ((tenorlaw5_awake.f kj7).bind fun t362 => (some t362)) else (some false)) else (some false)) else (some false)) else (some false)) else (some false)))) else (if t323 = (wrap64 (t312 + 1)) then (if t324 = 1 then (if t325 = 1 then (if t313 = 12 then (if t314 = 31 then ((tenorlaw5_awake.f kj7).bind fun t363 => (some t363)) else (some false)) else (some false)) else (some false)) else (some false)) else (some false))) else (some false)) else (some false)) else (some false)) else (some false)) else (some false)))) = some r := H
      have A24 := Aside0.mk A240;clear A240
      have HX := Aside0.mk (D.back_case A2.out A4.out A23.out A24.out c17)
      replace H := Option.bind_eq_some_iff.mp H
      obtain ⟨⟨t329, t330⟩, A250, H⟩ := H
      replace H : ((date_Weekday.f (wrap64 (a0 + 1))).bind fun bt331 => (if t326 = 0 then (if t328 = 0 then (if t330 = 0 then (if bt331.2 = 0 then (if bt331.1 = (Int.tmod (wrap64 (t329 + 1)) 7) then (if t323 = t312 then (if t324 = t313 then (if t325 = (wrap64 (t314 + 1)) then (if t324 = (wrap64 (t313 + 1)) then (if t325 = 1 then (if t323 = (wrap64 (t312 + 1)) then (if t324 = 1 then (if t313 = 12 then (if t314 < t327 then ((tenorlaw5_awake.f kj7).bind fun t333 => (some t333)) else (if t314 = t327 then ((tenorlaw5_awake.f kj7).bind fun t334 => (some t334)) else (if t314 = 31 then ((tenorlaw5_awake.f kj7).bind fun t335 => (some t335)) else (some false)))) else (if t314 < t327 then ((tenorlaw5_awake.f kj7).bind fun t336 => (some t336)) else (if t314 = t327 then ((tenorlaw5_awake.f kj7).bind fun t337 => (some t337)) else (some false)))) else (if t314 < t327 then ((tenorlaw5_awake.f kj7).bind fun t338 => (some t338)) else (if t314 = t327 then ((tenorlaw5_awake.f kj7).bind fun t339 => (some t339)) else (some false)))) else (if t314 < t327 then ((tenorlaw5_awake.f kj7).bind fun t340 => (some t340)) else (if t314 = t327 then ((tenorlaw5_awake.f kj7).bind fun t341 => (some t341)) else (some false)))) else (if t323 = (wrap64 (t312 + 1)) then (if t324 = 1 then (if t314 < t327 then ((tenorlaw5_awake.f kj7).bind fun t342 => (some t342)) else (some false)) else (if t314 < t327 then ((tenorlaw5_awake.f kj7).bind fun t343 => (some t343)) else (some false))) else (if t314 < t327 then ((tenorlaw5_awake.f kj7).bind fun t344 => (some t344)) else (some false)))) else (if t323 = (wrap64 (t312 + 1)) then (if t324 = 1 then (if t325 = 1 then (if t313 = 12 then (if t314 < t327 then ((tenorlaw5_awake.f kj7).bind fun t345 => (some t345)) else (if t314 = 31 then ((tenorlaw5_awake.f kj7).bind fun t346 => (some t346)) else (some false))) else (if t314 < t327 then ((tenorlaw5_awake.f kj7).bind fun t347 => (some t347)) else (some false))) else (if t314 < t327 then ((tenorlaw5_awake.f kj7).bind fun t348 => (some t348)) else (some false))) else (if t314 < t327 then ((tenorlaw5_awake.f kj7).bind fun t349 => (some t349)) else (some false))) else (if t314 < t327 then ((tenorlaw5_awake.f kj7).bind fun t350 => (some t350)) else (some false)))) else (if t324 = (wrap64 (t313 + 1)) then (if t325 = 1 then (if t323 = (wrap64 (t312 + 1)) then (if t324 = 1 then (if t313 = 12 then (if t314 = t327 then ((tenorlaw5_awake.f kj7).bind fun t351 => (some t351)) else (if t314 = 31 then ((tenorlaw5_awake.f kj7).bind fun t352 => (some t352)) else (some false))) else (if t314 = t327 then ((tenorlaw5_awake.f kj7).bind fun t353 => (some t353)) else (some false))) else (if t314 = t327 then ((tenorlaw5_awake.f kj7).bind fun t354 => (some t354)) else (some false))) else (if t314 = t327 then ((tenorlaw5_awake.f kj7).bind fun t355 => (some t355)) else (some false))) else (if t323 = (wrap64 (t312 + 1)) then (if t324 = 1 then (some false) else (some false)) else (some false))) else (if t323 = (wrap64 (t312 + 1)) then (if t324 = 1 then (if t325 = 1 then (if t313 = 12 then (if t314 = 31 then ((tenorlaw5_awake.f kj7).bind fun t356 => (some t356)) else (some false)) else (some false)) else (some false)) else (some false)) else (some false)))) else (if t324 = (wrap64 (t313 + 1)) then (if t325 = 1 then (if t323 = (wrap64 (t312 + 1)) then (if t324 = 1 then (if t313 = 12 then (if t314 = t327 then ((tenorlaw5_awake.f kj7).bind fun t357 => (some t357)) else (if t314 = 31 then ((tenorlaw5_awake.f kj7).bind fun t358 => (some t358)) else (some false))) else (if t314 = t327 then ((tenorlaw5_awake.f kj7).bind fun t359 => (some t359)) else (some false))) else (if t314 = t327 then ((tenorlaw5_awake.f kj7).bind fun t360 => (some t360)) else (some false))) else (if t314 = t327 then ((tenorlaw5_awake.f kj7).bind fun t361 => (some t361)) else (some false))) else (if t323 = (wrap64 (t312 + 1)) then (if t324 = 1 then (some false) else (some false)) else (some false))) else (if t323 = (wrap64 (t312 + 1)) then (if t324 = 1 then (if t325 = 1 then (if t313 = 12 then (if t314 = 31 then ((tenorlaw5_awake.f kj7).bind fun t362 => (some t362)) else (some false)) else (some false)) else (some false)) else (some false)) else (some false)))) else (if t323 = (wrap64 (t312 + 1)) then (if t324 = 1 then (if t325 = 1 then (if t313 = 12 then (if t314 = 31 then ((tenorlaw5_awake.f kj7).bind fun t363 => (some t363)) else (some false)) else (some false)) else (some false)) else (some false)) else (some false))) else (some false)) else (some false)) else (some false)) else (some false)) else (some false))) = some r := H
      have A25 := Aside0.mk A250;clear A250;replace H := Option.bind_eq_some_iff.mp H
      obtain ⟨⟨t331, t332⟩, A260, H⟩ := H
      replace H : (if t326 = 0 then (if t328 = 0 then (if t330 = 0 then (if t332 = 0 then (if t331 = (Int.tmod (wrap64 (t329 + 1)) 7) then (if t323 = t312 then (if t324 = t313 then (if t325 = (wrap64 (t314 + 1)) then (if t324 = (wrap64 (t313 + 1)) then (if t325 = 1 then (if t323 = (wrap64 (t312 + 1)) then (if t324 = 1 then (if t313 = 12 then (if t314 < t327 then ((tenorlaw5_awake.f kj7).bind fun t333 => (some t333)) else (if t314 = t327 then ((tenorlaw5_awake.f kj7).bind fun t334 => (some t334)) else (if t314 = 31 then ((tenorlaw5_awake.f kj7).bind fun t335 => (some t335)) else (some false)))) else (if t314 < t327 then ((tenorlaw5_awake.f kj7).bind fun t336 => (some t336)) else (if t314 = t327 then ((tenorlaw5_awake.f kj7).bind fun t337 => (some t337)) else (some false)))) else (if t314 < t327 then ((tenorlaw5_awake.f kj7).bind fun t338 => (some t338)) else (if t314 = t327 then ((tenorlaw5_awake.f kj7).bind fun t339 => (some t339)) else (some false)))) else (if t314 < t327 then ((tenorlaw5_awake.f kj7).bind fun t340 => (some t340)) else (if t314 = t327 then ((tenorlaw5_awake.f kj7).bind fun t341 => (some t341)) else (some false)))) else (if t323 = (wrap64 (t312 + 1)) then (if t324 = 1 then (if t314 < t327 then ((tenorlaw5_awake.f kj7).bind fun t342 => (some t342)) else (some false)) else (if t314 < t327 then ((tenorlaw5_awake.f kj7).bind fun t343 => (some t343)) else (some false))) else (if t314 < t327 then ((tenorlaw5_awake.f kj7).bind fun t344 => (some t344)) else (some false)))) else (if t323 = (wrap64 (t312 + 1)) then (if t324 = 1 then (if t325 = 1 then (if t313 = 12 then (if t314 < t327 then ((tenorlaw5_awake.f kj7).bind fun t345 => (some t345)) else (if t314 = 31 then ((tenorlaw5_awake.f kj7).bind fun t346 => (some t346)) else (some false))) else (if t314 < t327 then ((tenorlaw5_awake.f kj7).bind fun t347 => (some t347)) else (some false))) else (if t314 < t327 then ((tenorlaw5_awake.f kj7).bind fun t348 => (some t348)) else (some false))) else (if t314 < t327 then ((tenorlaw5_awake.f kj7).bind fun t349 => (some t349)) else (some false))) else (if t314 < t327 then ((tenorlaw5_awake.f kj7).bind fun t350 => (some t350)) else (some false)))) else (if t324 = (wrap64 (t313 + 1)) then (if t325 = 1 then (if t323 = (wrap64 (t312 + 1)) then (if t324 = 1 then (if t313 = 12 then (if t314 = t327 then ((tenorlaw5_awake.f kj7).bind fun t351 => (some t351)) else (if t314 = 31 then ((tenorlaw5_awake.f kj7).bind fun t352 => (some t352)) else (some false))) else (if t314 = t327 then ((tenorlaw5_awake.f kj7).bind fun t353 => (some t353)) else (some false))) else (if t314 = t327 then ((tenorlaw5_awake.f kj7).bind fun t354 => (some t354)) else (some false))) else (if t314 = t327 then ((tenorlaw5_awake.f kj7).bind fun t355 => (some t355)) else (some false))) else (if t323 = (wrap64 (t312 + 1)) then (if t324 = 1 then (some false) else (some false)) else (some false))) else (if t323 = (wrap64 (t312 + 1)) then (if t324 = 1 then (if t325 = 1 then (if t313 = 12 then (if t314 = 31 then ((tenorlaw5_awake.f kj7).bind fun t356 => (some t356)) else (some false)) else (some false)) else (some false)) else (some false)) else (some false)))) else (if t324 = (wrap64 (t313 + 1)) then (if t325 = 1 then (if t323 = (wrap64 (t312 + 1)) then (if t324 = 1 then (if t313 = 12 then (if t314 = t327 then ((tenorlaw5_awake.f kj7).bind fun t357 => (some t357)) else (if t314 = 31 then ((tenorlaw5_awake.f kj7).bind fun t358 => (some t358)) else (some false))) else (if t314 = t327 then ((tenorlaw5_awake.f kj7).bind fun t359 => (some t359)) else (some false))) else (if t314 = t327 then ((tenorlaw5_awake.f kj7).bind fun t360 => (some t360)) else (some false))) else (if t314 = t327 then ((tenorlaw5_awake.f kj7).bind fun t361 => (some t361)) else (some false))) else (if t323 = (wrap64 (t312 + 1)) then (if t324 = 1 then (some false) else (some false)) else (some false))) else (if t323 = (wrap64 (t312 + 1)) then (if t324 = 1 then (if t325 = 1 then (if t313 = 12 then (if t314 = 31 then ((tenorlaw5_awake.f kj7).bind fun t362 => (some t362)) else (some false)) else (some false)) else (some false)) else (some false)) else (some false)))) else (if t323 = (wrap64 (t312 + 1)) then (if t324 = 1 then (if t325 = 1 then (if t313 = 12 then (if t314 = 31 then ((tenorlaw5_awake.f kj7).bind fun t363 => (some t363)) else (some false)) else (some false)) else (some false)) else (some false)) else (some false))) else (some false)) else (some false)) else (some false)) else (some false)) else (some false)) = some r := H
      have A26 := Aside0.mk A260;clear A260
      by_cases c27 : t326 = 0
      ·
       rw [if_pos c27] at H
       have c27b0 : (t326 == 0) = true := beq_iff_eq.mpr c27
       have c27b1 : (t326 != 0) = false := bne_eq_false_iff_eq.mpr c27
       clear c27
       by_cases c28 : t328 = 0
       ·
        rw [if_pos c28] at H
        have c28b0 : (t328 == 0) = true := beq_iff_eq.mpr c28
        have c28b1 : (t328 != 0) = false := bne_eq_false_iff_eq.mpr c28
        clear c28
        by_cases c29 : t330 = 0
        ·
         rw [if_pos c29] at H
         have c29b0 : (t330 == 0) = true := beq_iff_eq.mpr c29
         have c29b1 : (t330 != 0) = false := bne_eq_false_iff_eq.mpr c29
         clear c29
         by_cases c30 : t332 = 0
         ·
          rw [if_pos c30] at H
          have c30b0 : (t332 == 0) = true := beq_iff_eq.mpr c30
          have c30b1 : (t332 != 0) = false := bne_eq_false_iff_eq.mpr c30
          clear c30
          by_cases c31 : t331 = (Int.tmod (wrap64 (t329 + 1)) 7)
          ·
           rw [if_pos c31] at H
           have c31b0 : (t331 == (Int.tmod (wrap64 (t329 + 1)) 7)) = true := beq_iff_eq.mpr c31
           have c31b1 : (t331 != (Int.tmod (wrap64 (t329 + 1)) 7)) = false := bne_eq_false_iff_eq.mpr c31
           clear c31
           by_cases c32 : t323 = t312
           ·
            have k32 := Aside0.mk c32
            rw [if_pos c32] at H
            have c32b0 : (t323 == t312) = true := beq_iff_eq.mpr c32
            have c32b1 : (t323 != t312) = false := bne_eq_false_iff_eq.mpr c32
            clear c32
            by_cases c33 : t324 = t313
            ·
             have k33 := Aside0.mk c33
             rw [if_pos c33] at H
             have c33b0 : (t324 == t313) = true := beq_iff_eq.mpr c33
             have c33b1 : (t324 != t313) = false := bne_eq_false_iff_eq.mpr c33
             clear c33
             by_cases c34 : t325 = (wrap64 (t314 + 1))
             ·
              have k34 := Aside0.mk c34
              rw [if_pos c34] at H
              have c34b0 : (t325 == (wrap64 (t314 + 1))) = true := beq_iff_eq.mpr c34
              have c34b1 : (t325 != (wrap64 (t314 + 1))) = false := bne_eq_false_iff_eq.mpr c34
              clear c34
              by_cases c35 : t324 = (wrap64 (t313 + 1))
              ·
               exact absurd HX.out (by have h32 := k32.out; have h33 := k33.out; have h34 := k34.out; rintro (⟨_, _, _, _, _, _⟩ | ⟨_, _, _, _, _, _⟩ | ⟨_, _, _, _, _, _⟩) <;> contradiction)
              ·
               have k35 := Aside0.mk c35
               rw [if_neg c35] at H
               have c35b0 : (t324 == (wrap64 (t313 + 1))) = false := beq_eq_false_iff_ne.mpr c35
               have c35b1 : (t324 != (wrap64 (t313 + 1))) = true := bne_iff_ne.mpr c35
               by_cases c78 : t323 = (wrap64 (t312 + 1))
               ·
                exact absurd HX.out (by have h32 := k32.out; have h33 := k33.out; have h34 := k34.out; have h35 := k35.out; rintro (⟨_, _, _, _, _, _⟩ | ⟨_, _, _, _, _, _⟩ | ⟨_, _, _, _, _, _⟩) <;> contradiction)
               ·
                have k78 := Aside0.mk c78
                rw [if_neg c78] at H
                have c78b0 : (t323 == (wrap64 (t312 + 1))) = false := beq_eq_false_iff_ne.mpr c78
                have c78b1 : (t323 != (wrap64 (t312 + 1))) = true := bne_iff_ne.mpr c78
                by_cases c97 : t314 < t327
                ·
                 have k97 := Aside0.mk c97
                 rw [if_pos c97] at H
                 have c97b0 : decide (t314 < t327) = true := decide_eq_true c97
                 clear c97;replace H := Option.bind_eq_some_iff.mp H
                 obtain ⟨t350, A980, H⟩ := H
                 replace H : (some t350) = some r := H
                 have A98 := Aside0.mk A980;clear A980
                 obtain rfl := Option.some.inj H
                 go_wp2_with (first | ((with_reducible refine gate_callee (f := 23) rfl ?_); refine goesL_ (some 122) rfl rfl Tryd.func23 (by kernel_rfl) rfl #[.int .i64 (wrap64 (a0 + 1))] rfl (by (try simp only [List.map_toArray, List.map_cons, List.map_nil]); first | done | rfl | (simp only [List.length_drop, List.length_take]; rfl)) ?_; (with_reducible refine (date_Civil.calls kj7 (wrap64 (a0 + 1)) t323 t324 t325 t326 _ A23.out).mono ?_); rintro e w' ⟨rfl, ⟨nd, rfl⟩⟩; refine ⟨_, rfl, ?_⟩) | ((with_reducible refine gate_callee (f := 19) rfl ?_); refine goesL_ (some 130) rfl rfl Tryd.func19 (by kernel_rfl) rfl #[.int .i64 t312, .int .i64 t313] rfl (by (try simp only [List.map_toArray, List.map_cons, List.map_nil]); first | done | rfl | (simp only [List.length_drop, List.length_take]; rfl)) ?_; (with_reducible refine (date_Length.calls t312 t313 t327 t328 _ A24.out).mono ?_); rintro e w' ⟨rfl, ⟨nd, rfl⟩⟩; refine ⟨_, rfl, ?_⟩) | ((with_reducible refine gate_callee (f := 25) rfl ?_); refine goesL_ (some 135) rfl rfl Tryd.func25 (by kernel_rfl) rfl #[.int .i64 a0] rfl (by (try simp only [List.map_toArray, List.map_cons, List.map_nil]); first | done | rfl | (simp only [List.length_drop, List.length_take]; rfl)) ?_; (with_reducible refine (date_Weekday.calls a0 t329 t330 _ A25.out).mono ?_); rintro e w' ⟨rfl, ⟨nd, rfl⟩⟩; refine ⟨_, rfl, ?_⟩) | ((with_reducible refine gate_callee (f := 25) rfl ?_); refine goesL_ (some 141) rfl rfl Tryd.func25 (by kernel_rfl) rfl #[.int .i64 (wrap64 (a0 + 1))] rfl (by (try simp only [List.map_toArray, List.map_cons, List.map_nil]); first | done | rfl | (simp only [List.length_drop, List.length_take]; rfl)) ?_; (with_reducible refine (date_Weekday.calls (wrap64 (a0 + 1)) t331 t332 _ A26.out).mono ?_); rintro e w' ⟨rfl, ⟨nd, rfl⟩⟩; refine ⟨_, rfl, ?_⟩) | (go_at_call 14; (with_reducible refine (tenorlaw5_awake.calls kj7  t350 _ A98.out).mono ?_); rintro e w99 ⟨rfl, hb⟩; have n0_ := Aside0.mk (below_step (by repeat (first | (with_reducible first | exact HB.out | apply below_alloc | apply pw_below_drewN | apply below_drew1) | exact HB.out)) hb); clear HB; have HB := n0_; clear n0_; (try clear hb); (try clear hb2); (try clear hk); (try clear hi)))
                 go_ret
                 exact ⟨by first | rfl | (simp [errW_none, errW_some] <;> rfl) | (simp [*, errW_none, errW_some] <;> rfl), by repeat (first | (with_reducible first | exact HB.out | apply below_alloc | apply pw_below_drewN | apply below_drew1) | exact HB.out)⟩
                ·
                 exact absurd HX.out (by have h32 := k32.out; have h33 := k33.out; have h34 := k34.out; have h35 := k35.out; have h78 := k78.out; rintro (⟨_, _, _, _, _, _⟩ | ⟨_, _, _, _, _, _⟩ | ⟨_, _, _, _, _, _⟩) <;> contradiction)
             ·
              exact absurd HX.out (by have h32 := k32.out; have h33 := k33.out; rintro (⟨_, _, _, _, _, _⟩ | ⟨_, _, _, _, _, _⟩ | ⟨_, _, _, _, _, _⟩) <;> contradiction)
            ·
             have k33 := Aside0.mk c33
             rw [if_neg c33] at H
             have c33b0 : (t324 == t313) = false := beq_eq_false_iff_ne.mpr c33
             have c33b1 : (t324 != t313) = true := bne_iff_ne.mpr c33
             by_cases c129 : t324 = (wrap64 (t313 + 1))
             ·
              have k129 := Aside0.mk c129
              rw [if_pos c129] at H
              have c129b0 : (t324 == (wrap64 (t313 + 1))) = true := beq_iff_eq.mpr c129
              have c129b1 : (t324 != (wrap64 (t313 + 1))) = false := bne_eq_false_iff_eq.mpr c129
              clear c129
              by_cases c130 : t325 = 1
              ·
               have k130 := Aside0.mk c130
               rw [if_pos c130] at H
               have c130b0 : (t325 == 1) = true := beq_iff_eq.mpr c130
               have c130b1 : (t325 != 1) = false := bne_eq_false_iff_eq.mpr c130
               clear c130
               by_cases c131 : t323 = (wrap64 (t312 + 1))
               ·
                exact absurd HX.out (by have h32 := k32.out; have h33 := k33.out; have h129 := k129.out; have h130 := k130.out; rintro (⟨_, _, _, _, _, _⟩ | ⟨_, _, _, _, _, _⟩ | ⟨_, _, _, _, _, _⟩) <;> contradiction)
               ·
                have k131 := Aside0.mk c131
                rw [if_neg c131] at H
                have c131b0 : (t323 == (wrap64 (t312 + 1))) = false := beq_eq_false_iff_ne.mpr c131
                have c131b1 : (t323 != (wrap64 (t312 + 1))) = true := bne_iff_ne.mpr c131
                by_cases c146 : t314 = t327
                ·
                 have k146 := Aside0.mk c146
                 rw [if_pos c146] at H
                 have c146b0 : (t314 == t327) = true := beq_iff_eq.mpr c146
                 have c146b1 : (t314 != t327) = false := bne_eq_false_iff_eq.mpr c146
                 clear c146;replace H := Option.bind_eq_some_iff.mp H
                 obtain ⟨t361, A1470, H⟩ := H
                 replace H : (some t361) = some r := H
                 have A147 := Aside0.mk A1470;clear A1470
                 obtain rfl := Option.some.inj H
                 go_wp2_with (first | ((with_reducible refine gate_callee (f := 23) rfl ?_); refine goesL_ (some 122) rfl rfl Tryd.func23 (by kernel_rfl) rfl #[.int .i64 (wrap64 (a0 + 1))] rfl (by (try simp only [List.map_toArray, List.map_cons, List.map_nil]); first | done | rfl | (simp only [List.length_drop, List.length_take]; rfl)) ?_; (with_reducible refine (date_Civil.calls kj7 (wrap64 (a0 + 1)) t323 t324 t325 t326 _ A23.out).mono ?_); rintro e w' ⟨rfl, ⟨nd, rfl⟩⟩; refine ⟨_, rfl, ?_⟩) | ((with_reducible refine gate_callee (f := 19) rfl ?_); refine goesL_ (some 130) rfl rfl Tryd.func19 (by kernel_rfl) rfl #[.int .i64 t312, .int .i64 t313] rfl (by (try simp only [List.map_toArray, List.map_cons, List.map_nil]); first | done | rfl | (simp only [List.length_drop, List.length_take]; rfl)) ?_; (with_reducible refine (date_Length.calls t312 t313 t327 t328 _ A24.out).mono ?_); rintro e w' ⟨rfl, ⟨nd, rfl⟩⟩; refine ⟨_, rfl, ?_⟩) | ((with_reducible refine gate_callee (f := 25) rfl ?_); refine goesL_ (some 135) rfl rfl Tryd.func25 (by kernel_rfl) rfl #[.int .i64 a0] rfl (by (try simp only [List.map_toArray, List.map_cons, List.map_nil]); first | done | rfl | (simp only [List.length_drop, List.length_take]; rfl)) ?_; (with_reducible refine (date_Weekday.calls a0 t329 t330 _ A25.out).mono ?_); rintro e w' ⟨rfl, ⟨nd, rfl⟩⟩; refine ⟨_, rfl, ?_⟩) | ((with_reducible refine gate_callee (f := 25) rfl ?_); refine goesL_ (some 141) rfl rfl Tryd.func25 (by kernel_rfl) rfl #[.int .i64 (wrap64 (a0 + 1))] rfl (by (try simp only [List.map_toArray, List.map_cons, List.map_nil]); first | done | rfl | (simp only [List.length_drop, List.length_take]; rfl)) ?_; (with_reducible refine (date_Weekday.calls (wrap64 (a0 + 1)) t331 t332 _ A26.out).mono ?_); rintro e w' ⟨rfl, ⟨nd, rfl⟩⟩; refine ⟨_, rfl, ?_⟩) | (go_at_call 14; (with_reducible refine (tenorlaw5_awake.calls kj7  t361 _ A147.out).mono ?_); rintro e w148 ⟨rfl, hb⟩; have n0_ := Aside0.mk (below_step (by repeat (first | (with_reducible first | exact HB.out | apply below_alloc | apply pw_below_drewN | apply below_drew1) | exact HB.out)) hb); clear HB; have HB := n0_; clear n0_; (try clear hb); (try clear hb2); (try clear hk); (try clear hi)))
                 go_ret
                 exact ⟨by first | rfl | (simp [errW_none, errW_some] <;> rfl) | (simp [*, errW_none, errW_some] <;> rfl), by repeat (first | (with_reducible first | exact HB.out | apply below_alloc | apply pw_below_drewN | apply below_drew1) | exact HB.out)⟩
                ·
                 exact absurd HX.out (by have h32 := k32.out; have h33 := k33.out; have h129 := k129.out; have h130 := k130.out; have h131 := k131.out; rintro (⟨_, _, _, _, _, _⟩ | ⟨_, _, _, _, _, _⟩ | ⟨_, _, _, _, _, _⟩) <;> contradiction)
              ·
               exact absurd HX.out (by have h32 := k32.out; have h33 := k33.out; have h129 := k129.out; rintro (⟨_, _, _, _, _, _⟩ | ⟨_, _, _, _, _, _⟩ | ⟨_, _, _, _, _, _⟩) <;> contradiction)
             ·
              exact absurd HX.out (by have h32 := k32.out; have h33 := k33.out; rintro (⟨_, _, _, _, _, _⟩ | ⟨_, _, _, _, _, _⟩ | ⟨_, _, _, _, _, _⟩) <;> contradiction)
           ·
            have k32 := Aside0.mk c32
            rw [if_neg c32] at H
            have c32b0 : (t323 == t312) = false := beq_eq_false_iff_ne.mpr c32
            have c32b1 : (t323 != t312) = true := bne_iff_ne.mpr c32
            by_cases c158 : t323 = (wrap64 (t312 + 1))
            ·
             have k158 := Aside0.mk c158
             rw [if_pos c158] at H
             have c158b0 : (t323 == (wrap64 (t312 + 1))) = true := beq_iff_eq.mpr c158
             have c158b1 : (t323 != (wrap64 (t312 + 1))) = false := bne_eq_false_iff_eq.mpr c158
             clear c158
             by_cases c159 : t324 = 1
             ·
              have k159 := Aside0.mk c159
              rw [if_pos c159] at H
              have c159b0 : (t324 == 1) = true := beq_iff_eq.mpr c159
              have c159b1 : (t324 != 1) = false := bne_eq_false_iff_eq.mpr c159
              clear c159
              by_cases c160 : t325 = 1
              ·
               have k160 := Aside0.mk c160
               rw [if_pos c160] at H
               have c160b0 : (t325 == 1) = true := beq_iff_eq.mpr c160
               have c160b1 : (t325 != 1) = false := bne_eq_false_iff_eq.mpr c160
               clear c160
               by_cases c161 : t313 = 12
               ·
                have k161 := Aside0.mk c161
                rw [if_pos c161] at H
                have c161b0 : (t313 == 12) = true := beq_iff_eq.mpr c161
                have c161b1 : (t313 != 12) = false := bne_eq_false_iff_eq.mpr c161
                clear c161
                by_cases c162 : t314 = 31
                ·
                 have k162 := Aside0.mk c162
                 rw [if_pos c162] at H
                 have c162b0 : (t314 == 31) = true := beq_iff_eq.mpr c162
                 have c162b1 : (t314 != 31) = false := bne_eq_false_iff_eq.mpr c162
                 clear c162;replace H := Option.bind_eq_some_iff.mp H
                 obtain ⟨t363, A1630, H⟩ := H
                 replace H : (some t363) = some r := H
                 have A163 := Aside0.mk A1630;clear A1630
                 obtain rfl := Option.some.inj H
                 go_wp2_with (first | ((with_reducible refine gate_callee (f := 23) rfl ?_); refine goesL_ (some 122) rfl rfl Tryd.func23 (by kernel_rfl) rfl #[.int .i64 (wrap64 (a0 + 1))] rfl (by (try simp only [List.map_toArray, List.map_cons, List.map_nil]); first | done | rfl | (simp only [List.length_drop, List.length_take]; rfl)) ?_; (with_reducible refine (date_Civil.calls kj7 (wrap64 (a0 + 1)) t323 t324 t325 t326 _ A23.out).mono ?_); rintro e w' ⟨rfl, ⟨nd, rfl⟩⟩; refine ⟨_, rfl, ?_⟩) | ((with_reducible refine gate_callee (f := 19) rfl ?_); refine goesL_ (some 130) rfl rfl Tryd.func19 (by kernel_rfl) rfl #[.int .i64 t312, .int .i64 t313] rfl (by (try simp only [List.map_toArray, List.map_cons, List.map_nil]); first | done | rfl | (simp only [List.length_drop, List.length_take]; rfl)) ?_; (with_reducible refine (date_Length.calls t312 t313 t327 t328 _ A24.out).mono ?_); rintro e w' ⟨rfl, ⟨nd, rfl⟩⟩; refine ⟨_, rfl, ?_⟩) | ((with_reducible refine gate_callee (f := 25) rfl ?_); refine goesL_ (some 135) rfl rfl Tryd.func25 (by kernel_rfl) rfl #[.int .i64 a0] rfl (by (try simp only [List.map_toArray, List.map_cons, List.map_nil]); first | done | rfl | (simp only [List.length_drop, List.length_take]; rfl)) ?_; (with_reducible refine (date_Weekday.calls a0 t329 t330 _ A25.out).mono ?_); rintro e w' ⟨rfl, ⟨nd, rfl⟩⟩; refine ⟨_, rfl, ?_⟩) | ((with_reducible refine gate_callee (f := 25) rfl ?_); refine goesL_ (some 141) rfl rfl Tryd.func25 (by kernel_rfl) rfl #[.int .i64 (wrap64 (a0 + 1))] rfl (by (try simp only [List.map_toArray, List.map_cons, List.map_nil]); first | done | rfl | (simp only [List.length_drop, List.length_take]; rfl)) ?_; (with_reducible refine (date_Weekday.calls (wrap64 (a0 + 1)) t331 t332 _ A26.out).mono ?_); rintro e w' ⟨rfl, ⟨nd, rfl⟩⟩; refine ⟨_, rfl, ?_⟩) | (go_at_call 14; (with_reducible refine (tenorlaw5_awake.calls kj7  t363 _ A163.out).mono ?_); rintro e w164 ⟨rfl, hb⟩; have n0_ := Aside0.mk (below_step (by repeat (first | (with_reducible first | exact HB.out | apply below_alloc | apply pw_below_drewN | apply below_drew1) | exact HB.out)) hb); clear HB; have HB := n0_; clear n0_; (try clear hb); (try clear hb2); (try clear hk); (try clear hi)))
                 go_ret
                 exact ⟨by first | rfl | (simp [errW_none, errW_some] <;> rfl) | (simp [*, errW_none, errW_some] <;> rfl), by repeat (first | (with_reducible first | exact HB.out | apply below_alloc | apply pw_below_drewN | apply below_drew1) | exact HB.out)⟩
                ·
                 exact absurd HX.out (by have h32 := k32.out; have h158 := k158.out; have h159 := k159.out; have h160 := k160.out; have h161 := k161.out; rintro (⟨_, _, _, _, _, _⟩ | ⟨_, _, _, _, _, _⟩ | ⟨_, _, _, _, _, _⟩) <;> contradiction)
               ·
                exact absurd HX.out (by have h32 := k32.out; have h158 := k158.out; have h159 := k159.out; have h160 := k160.out; rintro (⟨_, _, _, _, _, _⟩ | ⟨_, _, _, _, _, _⟩ | ⟨_, _, _, _, _, _⟩) <;> contradiction)
              ·
               exact absurd HX.out (by have h32 := k32.out; have h158 := k158.out; have h159 := k159.out; rintro (⟨_, _, _, _, _, _⟩ | ⟨_, _, _, _, _, _⟩ | ⟨_, _, _, _, _, _⟩) <;> contradiction)
             ·
              exact absurd HX.out (by have h32 := k32.out; have h158 := k158.out; rintro (⟨_, _, _, _, _, _⟩ | ⟨_, _, _, _, _, _⟩ | ⟨_, _, _, _, _, _⟩) <;> contradiction)
            ·
             exact absurd HX.out (by have h32 := k32.out; rintro (⟨_, _, _, _, _, _⟩ | ⟨_, _, _, _, _, _⟩ | ⟨_, _, _, _, _, _⟩) <;> contradiction)
          ·
           rw [if_neg c31] at H
           have c31b0 : (t331 == (Int.tmod (wrap64 (t329 + 1)) 7)) = false := beq_eq_false_iff_ne.mpr c31
           have c31b1 : (t331 != (Int.tmod (wrap64 (t329 + 1)) 7)) = true := bne_iff_ne.mpr c31
           exact absurd (H.trans (congrArg some HT)) (by decide)
         ·
          rw [if_neg c30] at H
          have c30b0 : (t332 == 0) = false := beq_eq_false_iff_ne.mpr c30
          have c30b1 : (t332 != 0) = true := bne_iff_ne.mpr c30
          exact absurd (H.trans (congrArg some HT)) (by decide)
        ·
         rw [if_neg c29] at H
         have c29b0 : (t330 == 0) = false := beq_eq_false_iff_ne.mpr c29
         have c29b1 : (t330 != 0) = true := bne_iff_ne.mpr c29
         exact absurd (H.trans (congrArg some HT)) (by decide)
       ·
        rw [if_neg c28] at H
        have c28b0 : (t328 == 0) = false := beq_eq_false_iff_ne.mpr c28
        have c28b1 : (t328 != 0) = true := bne_iff_ne.mpr c28
        exact absurd (H.trans (congrArg some HT)) (by decide)
      ·
       rw [if_neg c27] at H
       have c27b0 : (t326 == 0) = false := beq_eq_false_iff_ne.mpr c27
       have c27b1 : (t326 != 0) = true := bne_iff_ne.mpr c27
       exact absurd (H.trans (congrArg some HT)) (by decide)
 ·
  replace c3 := Bool.eq_false_iff.mpr c3;subst c3
  have H1 : ((date_Civil.f k a0).bind fun bt305 => ((date_Print.f a0).bind fun bt309 => (if bt305.2.2.2 = 51 then (if bt309.2 = 51 then ((tenorlaw5_awake.f k).bind fun t311 => (some t311)) else (some false)) else (some false)))) = some r := by rw [if_neg (show ¬ (false = true) by decide)] at H; exact H
  clear H;have H := H1;clear H1;replace H := Option.bind_eq_some_iff.mp H
  obtain ⟨⟨t305, t306, t307, t308⟩, A1650, H⟩ := H
  replace H : ((date_Print.f a0).bind fun bt309 => (if t308 = 51 then (if bt309.2 = 51 then ((tenorlaw5_awake.f k).bind fun t311 => (some t311)) else (some false)) else (some false))) = some r := H
  have A165 := Aside0.mk A1650;clear A1650;replace H := Option.bind_eq_some_iff.mp H
  obtain ⟨⟨t309, t310⟩, A1660, H⟩ := H
  replace H : (if t308 = 51 then (if t310 = 51 then ((tenorlaw5_awake.f k).bind fun t311 => (some t311)) else (some false)) else (some false)) = some r := H
  have A166 := Aside0.mk A1660;clear A1660
  by_cases c167 : t308 = 51
  ·
   rw [if_pos c167] at H
   have c167b0 : (t308 == 51) = true := beq_iff_eq.mpr c167
   have c167b1 : (t308 != 51) = false := bne_eq_false_iff_eq.mpr c167
   clear c167
   by_cases c168 : t310 = 51
   ·
    rw [if_pos c168] at H
    have c168b0 : (t310 == 51) = true := beq_iff_eq.mpr c168
    have c168b1 : (t310 != 51) = false := bne_eq_false_iff_eq.mpr c168
    clear c168;replace H := Option.bind_eq_some_iff.mp H
    obtain ⟨t311, A1690, H⟩ := H
    replace H : (some t311) = some r := H
    have A169 := Aside0.mk A1690;clear A1690
    obtain rfl := Option.some.inj H
    go_enter Tryd.func8, Tryd.ntmps8
    go_wp2_with (first | ((with_reducible refine gate_callee (f := 31) rfl ?_); refine goesL_ (some 33) rfl rfl Tryd.func31 (by kernel_rfl) rfl #[.int .i64 a0] rfl (by (try simp only [List.map_toArray, List.map_cons, List.map_nil]); first | done | rfl | (simp only [List.length_drop, List.length_take]; rfl)) ?_; (with_reducible refine (tenorlaw5_isDay.calls a0 false _ A2.out).mono ?_); rintro e w' ⟨rfl, ⟨nd, rfl⟩⟩; refine ⟨_, rfl, ?_⟩) | ((with_reducible refine gate_callee (f := 23) rfl ?_); refine goesL_ (some 37) rfl rfl Tryd.func23 (by kernel_rfl) rfl #[.int .i64 a0] rfl (by (try simp only [List.map_toArray, List.map_cons, List.map_nil]); first | done | rfl | (simp only [List.length_drop, List.length_take]; rfl)) ?_; (with_reducible refine (date_Civil.calls k a0 t305 t306 t307 t308 _ A165.out).mono ?_); rintro e w' ⟨rfl, ⟨nd, rfl⟩⟩; refine ⟨_, rfl, ?_⟩) | ((with_reducible refine gate_callee (f := 17) rfl ?_); refine goesL_ (some 44) rfl rfl Tryd.func17 (by kernel_rfl) rfl #[.int .i64 a0] rfl (by (try simp only [List.map_toArray, List.map_cons, List.map_nil]); first | done | rfl | (simp only [List.length_drop, List.length_take]; rfl)) ?_; (with_reducible refine (date_Print.calls a0 t309 t310 _ A166.out (tab_on HTA.out (by repeat (first | (with_reducible first | exact HB.out | apply below_alloc | apply pw_below_drewN | apply below_drew1) | exact HB.out)))).mono ?_); rintro e w170 ⟨rfl, hb⟩; refine ⟨_, rfl, ?_⟩; have n0_ := Aside0.mk (below_step (by repeat (first | (with_reducible first | exact HB.out | apply below_alloc | apply pw_below_drewN | apply below_drew1) | exact HB.out)) hb); clear HB; have HB := n0_; clear n0_; (try clear hb); (try clear hb2); (try clear hk); (try clear hi)) | (go_at_call 14; (with_reducible refine (tenorlaw5_awake.calls k  t311 _ A169.out).mono ?_); rintro e w171 ⟨rfl, hb⟩; have n0_ := Aside0.mk (below_step (by repeat (first | (with_reducible first | exact HB.out | apply below_alloc | apply pw_below_drewN | apply below_drew1) | exact HB.out)) hb); clear HB; have HB := n0_; clear n0_; (try clear hb); (try clear hb2); (try clear hk); (try clear hi)))
    go_ret
    exact ⟨by first | rfl | (simp [errW_none, errW_some] <;> rfl) | (simp [*, errW_none, errW_some] <;> rfl), by repeat (first | (with_reducible first | exact HB.out | apply below_alloc | apply pw_below_drewN | apply below_drew1) | exact HB.out)⟩
   ·
    rw [if_neg c168] at H
    have c168b0 : (t310 == 51) = false := beq_eq_false_iff_ne.mpr c168
    have c168b1 : (t310 != 51) = true := bne_iff_ne.mpr c168
    exact absurd (H.trans (congrArg some HT)) (by decide)
  ·
   rw [if_neg c167] at H
   have c167b0 : (t308 == 51) = false := beq_eq_false_iff_ne.mpr c167
   have c167b1 : (t308 != 51) = true := bne_iff_ne.mpr c167
   exact absurd (H.trans (congrArg some HT)) (by decide)
end Go.Proofs.YtoncignjcgjhhaaDoor.Q
