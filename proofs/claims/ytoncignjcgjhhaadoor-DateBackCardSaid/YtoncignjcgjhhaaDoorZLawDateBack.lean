/- The law DateBack: whatever the input, it tells true, and what it was handed reads as before; the listed tables and errors of strconv start as the program's text lays them (the tied card). No other condition. -/
import Derived.Test.YtoncignjcgjhhaaDoorRows
import Derived.Test.YtoncignjcgjhhaaDoorCards
import Derived.Test.YtoncignjcgjhhaaDoorTie
import Derived.Test.YtoncignjcgjhhaaDoorZPureDBack
import Derived.Test.YtoncignjcgjhhaaDoorZTabD
import Derived.WalkKit
import Derived.ProofKit
import Derived.OpenShut
import Derived.ChangeOld
import Derived.Below
import Derived.SizedLaws
import Derived.Handy
import Derived.Lay
import Derived.SevenTiedAt
import Derived.ChangeSame
import Derived.Test.YtoncignjcgjhhaaDoorZU
set_option linter.unusedVariables false
set_option linter.unusedSimpArgs false
namespace Go.Proofs.YtoncignjcgjhhaaDoor.dateBack
open Go.ChangeShapes Go.WideShapes Go.ChangeAt Go.RowKit
open Go.ChangeMaps (open_string shut_string)
theorem own : ownKnob Tryd.prog.godebug = none := by kernel_rfl
set_option maxRecDepth 100000 in
theorem lifted (os : Os) (started : os.Started) (H : Type) (enc : TypeId × Value → H) :
  ReturnsInHanded {} Tryd.checked os 8 .any (fun w args => (Rows.dateBackSpec.pre enc Tryd.prog Tryd.f8 Rows.dateBackRow.domain false w args ∧ laidMetH Tryd.prog Rows.dateBackRow.laid w) ∧ sizedMet enc Tryd.prog Tryd.f8 (OpenSpec.ofChange Rows.dateBackSpec) false w args)
   (Rows.dateBackSpec.post enc Tryd.prog Tryd.f8 false true false false) := by
 refine returnsInHanded_of_change_and (C := Tryd.checked) (X := fun w _ => laidMetH Tryd.prog Rows.dateBackRow.laid w) (fun _ _ _ hh h => h.of_heap hh) own started (by kernel_rfl) Tryd.func8
  (ChangeSpec.witness_shaped (enc := enc) (C := Tryd.checked) (os := os) (X := fun w _ => laidMetH Tryd.prog Rows.dateBackRow.laid w) false (World.laidAll Tryd.prog os Rows.dateBackRow.laid) #[.int .i64 0] 8 (World.laidAll_os _ _ _)
   (World.shaped_of_ZipB (by kernel_rfl) (by kernel_rfl)) (by kernel_rfl) (by kernel_rfl) (by kernel_rfl)
   (by rw [MakeChecks.laidMetH_plain _ _ _ (by kernel_rfl)]; exact laidMet_laidAll _ (by kernel_rfl) (by kernel_rfl))) ?_
 intro W base args ds gs before hval0 hW _ hsz0 hL _
 have hval : ∀ (j : Nat) t v, Tryd.f8.params[j]? = some t → args[j]? = some v → Value.okWide Tryd.prog W .any base t v := hval0
 have hW' := hW
 obtain ⟨p, q, hA0, hV, rfl, _, _⟩ := hW
 have hA : DataW.TrodAll enc Tryd.prog W 0 (fun _ => true) true Tryd.f8.params.toList args.toList ds p := hA0
 rw [Tryd.params8] at hA hval
 obtain ⟨v0, vs0, d0, ds0, p0, q0, hargs, rfl, rfl, h0, r0⟩ := trodAll_cons hA
 obtain ⟨rfl, rfl, rfl⟩ := trodAll_nil r0
 obtain rfl : args = #[v0] := by cases args; simp_all
 obtain ⟨rfl, rfl⟩ := trodVars_none hV
 obtain ⟨a0, rfl, rfl, rfl, w0⟩ := open_int Tryd.underlying3 (hval 0 3 v0 rfl rfl) h0
 simp only [List.append_nil] at hW'
 have hL2 := hL
 rw [MakeChecks.laidMetH_plain _ _ _ (by kernel_rfl)] at hL2
 have hT := D.tab_of_laid hL2
 obtain ⟨k, h⟩ := (D.DateBack a0).rounds
 refine (Q.tenorlaw5_DateBack.calls k a0 true W hT h rfl).mono fun e W' ⟨he, bel⟩ => ?_
 subst he
 exact ⟨_, rfl, _, _, _, [], _, [], hW', trodAll_mk1 (shut_bool Tryd.underlying4 _), (trodAll_cons_mk (shut_int Tryd.underlying3 w0) trodAll_mk0), rfl, bel.frame _, fun h => by cases h⟩
theorem over : Rows.dateBackRow.holds Tryd.pinned (OpenSpec.ofChange Rows.dateBackSpec) :=
 OpenClaim.holds_of_wide 8 Tryd.f8 rfl rfl rfl rfl rfl rfl rfl ⟨rfl, rfl, rfl, rfl, rfl⟩ rfl rfl rfl rfl rfl (by kernel_rfl) Tryd.func8 (by kernel_rfl)
  (of_decide_eq_true (by kernel_rfl)) (by unfold Func.isWrapper; first | (rw [if_pos (by decide +kernel)]; kernel_rfl) | (rw [if_neg (by decide +kernel)]; exact ⟨rfl, rfl⟩))
  (fun os started H enc _ => lifted os started H enc)
theorem card : Rows.DateBackCardSaid :=
 Claim7.holds_tied_plain_at .later [] [.data, .data, .data, .sentinel, .sentinel] true (true, "9b90702b2593c5b92d7366f198ea2153bd70fda9869e501bc49150307087770f") true
  over (fun _ h => by cases h) (by kernel_rfl) (fun _ h => by cases h) dateBack_row_tie rfl ⟨rfl, rfl⟩ (by kernel_rfl) rfl
  (fun f fn hf hfn => by
   obtain rfl : f = 8 := Option.some.inj ((show Tryd.prog.funcNamed "tenor/tenorlaw5.DateBack" = some 8 by kernel_rfl).symm.trans hf) |>.symm
   obtain rfl : fn = Tryd.f8 := (Option.some.inj (Tryd.func8.symm.trans hfn)).symm
   exact ⟨by kernel_rfl, fun j t ht => by
    rw [Tryd.params8] at ht
    have hm : t ∈ [3] := by simpa using Array.mem_of_getElem? ht
    have hall : ([3].all fun u => !Tryd.prog.wantsStandIn u) = true := by kernel_rfl
    exact (show Tryd.prog.wantsStandIn t = false by simpa using List.all_eq_true.1 hall t hm)⟩)
  (by kernel_rfl)
end Go.Proofs.YtoncignjcgjhhaaDoor.dateBack
namespace Go.Proofs.YtoncignjcgjhhaaDoor
theorem dateBack_card_holds : Rows.DateBackCardSaid := dateBack.card
#print axioms dateBack_card_holds
end Go.Proofs.YtoncignjcgjhhaaDoor
