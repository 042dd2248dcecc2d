/- The law VmLent: whatever the input, it tells true, and what it was handed reads as before; the table of code's kinds starts as the program's text lays it (the tied card). No other condition. -/
import Derived.Test.YtkabcgmegljebaaGreatDoorRows
import Derived.Test.YtkabcgmegljebaaGreatDoorCards
import Derived.Test.YtkabcgmegljebaaGreatDoorTie
import Derived.Test.YtkabcgmegljebaaGreatDoorRLentW
import Derived.Test.YtkabcgmegljebaaGreatDoorRGV
import Derived.WalkKit
import Derived.ProofKit
import Derived.OpenShut
import Derived.ChangeOld
import Derived.Below
import Derived.SizedLaws
import Derived.Handy
import Derived.Lay
import Derived.SevenTiedAt
import Derived.ChangeSame
set_option linter.unusedVariables false
set_option linter.unusedSimpArgs false
namespace Go.Proofs.YtkabcgmegljebaaGreatDoor.vmLent
open Go.ChangeShapes Go.WideShapes Go.ChangeAt Go.RowKit
theorem own : ownKnob Tryz.prog.godebug = none := by kernel_rfl
theorem laidOut : laidOutB Tryz.prog = true := by kernel_rfl
set_option maxRecDepth 100000 in
theorem lifted (os : Os) (started : os.Started) (H : Type) (enc : TypeId × Value → H) :
  ReturnsInHanded {} Tryz.checked os 4 .any (fun w args => (Rows.vmLentSpec.pre enc Tryz.prog Tryz.f4 Rows.vmLentRow.domain false w args ∧ laidMetH Tryz.prog Rows.vmLentRow.laid w) ∧ sizedMet enc Tryz.prog Tryz.f4 (OpenSpec.ofChange Rows.vmLentSpec) false w args)
   (Rows.vmLentSpec.post enc Tryz.prog Tryz.f4 false true false false) := by
 refine returnsInHanded_of_change_and (C := Tryz.checked) (X := fun w _ => laidMetH Tryz.prog Rows.vmLentRow.laid w) (fun _ _ _ hh h => h.of_heap hh) own started (by kernel_rfl) Tryz.func4
  (ChangeSpec.witness_shaped (enc := enc) (C := Tryz.checked) (os := os) (X := fun w _ => laidMetH Tryz.prog Rows.vmLentRow.laid w) false (World.laidAll Tryz.prog os Rows.vmLentRow.laid) #[.slice none 0 0] 8 (World.laidAll_os _ _ _)
   (World.shaped_of_ZipB (by kernel_rfl) (by kernel_rfl)) (by kernel_rfl) (by kernel_rfl) (by kernel_rfl)
   (by rw [MakeChecks.laidMetH_plain _ _ _ (by kernel_rfl)]; exact laidMet_laidAll _ (by kernel_rfl) (by kernel_rfl))) ?_
 intro W base args ds gs before hval0 hW _ hsz0 hL _
 have hval : ∀ (j : Nat) t v, Tryz.f4.params[j]? = some t → args[j]? = some v → Value.okWide Tryz.prog W .any base t v := hval0
 have hW' := hW
 obtain ⟨p, q, hA0, hV, rfl, _, _⟩ := hW
 have hA : DataW.TrodAll enc Tryz.prog W 0 (fun _ => true) true Tryz.f4.params.toList args.toList ds p := hA0
 rw [Tryz.params4] at hA hval
 obtain ⟨v0, vs0, d0, ds0, p0, q0, hargs, rfl, rfl, h0, r0⟩ := trodAll_cons hA
 obtain ⟨rfl, rfl, rfl⟩ := trodAll_nil r0
 obtain rfl : args = #[v0] := by cases args; simp_all
 obtain ⟨rfl, rfl⟩ := trodVars_none hV
 have lt0 : ∀ x ∈ p0, x.block < W.heap.size := by obtain ⟨m, hm⟩ := h0; exact DataW.trod_lt m _ _ _ hm
 obtain ⟨A0, c0, l0, rfl, hc0, hk0⟩ := O.ops_arg (hval 0 22 v0 rfl rfl) h0
 simp only [List.append_nil] at hW'
 have hL2 := hL
 rw [MakeChecks.laidMetH_plain _ _ _ (by kernel_rfl)] at hL2
 have hT := O.kt_of_laid hL2
 refine (Go.Proofs.YtkabcgmegljebaaGreatDoor.D.lent_all l0 A0 c0 W hT hk0.1 hk0.2).mono fun e W' ⟨he, bel⟩ => ?_
 subst he
 exact ⟨_, rfl, _, _, _, [], _, [], hW', trodAll_mk1 (shut_bool Tryz.underlying4 _), (trodAll_cons_mk (Below.trod laidOut (by kernel_rfl) (of_decide_eq_true (by kernel_rfl)) h0 bel lt0) trodAll_mk0), rfl, bel.frame _, fun h => by cases h⟩
theorem over : Rows.vmLentRow.holds Tryz.pinned (OpenSpec.ofChange Rows.vmLentSpec) :=
 OpenClaim.holds_of_wide 4 Tryz.f4 rfl rfl rfl rfl rfl rfl rfl ⟨rfl, rfl, rfl, rfl, rfl⟩ rfl rfl rfl rfl rfl (by kernel_rfl) Tryz.func4 (by kernel_rfl)
  (of_decide_eq_true (by kernel_rfl)) (by unfold Func.isWrapper; first | (rw [if_pos (by decide +kernel)]; kernel_rfl) | (rw [if_neg (by decide +kernel)]; exact ⟨rfl, rfl⟩))
  (fun os started H enc _ => lifted os started H enc)
theorem card : Rows.VmLentCardSaid :=
 Claim7.holds_tied_plain_at .later [] [.widerDeep] true (true, "ae20e7a9fdd1ea84fde4133d566fbb64c0989a09a6ec964e7a3a5a3b7e29102b") false
  over (fun _ h => by cases h) (by kernel_rfl) (fun _ h => by cases h) vmLent_row_tie rfl ⟨rfl, rfl⟩ (by kernel_rfl) rfl
  (fun f fn hf hfn => by
   obtain rfl : f = 4 := Option.some.inj ((show Tryz.prog.funcNamed "tenor/tenorlaw19.VmLent" = some 4 by kernel_rfl).symm.trans hf) |>.symm
   obtain rfl : fn = Tryz.f4 := (Option.some.inj (Tryz.func4.symm.trans hfn)).symm
   exact ⟨by kernel_rfl, fun j t ht => by
    rw [Tryz.params4] at ht
    have hm : t ∈ [22] := by simpa using Array.mem_of_getElem? ht
    have hall : ([22].all fun u => !Tryz.prog.wantsStandIn u) = true := by kernel_rfl
    exact (show Tryz.prog.wantsStandIn t = false by simpa using List.all_eq_true.1 hall t hm)⟩)
  (by kernel_rfl)
end Go.Proofs.YtkabcgmegljebaaGreatDoor.vmLent
namespace Go.Proofs.YtkabcgmegljebaaGreatDoor
theorem vmLent_card_holds : Rows.VmLentCardSaid := vmLent.card
#print axioms vmLent_card_holds
end Go.Proofs.YtkabcgmegljebaaGreatDoor
