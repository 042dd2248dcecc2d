/- Contracts and facts of functions of the program, joined in one text. -/
import Derived.Test.YtkabcgmegljebaaGreatDoorRGA
import Derived.Test.YtkabcgmegljebaaGreatDoorRGS
set_option maxHeartbeats 8000000
set_option maxRecDepth 100000
set_option linter.unusedVariables false
set_option linter.unusedSimpArgs false
namespace Go.Proofs.YtkabcgmegljebaaGreatDoor.D
open Go.RowKit Go.Proofs.YtkabcgmegljebaaGreatDoorW.PrintWords Go.Proofs.YtkabcgmegljebaaGreatDoorW.PrintLast Go.Proofs.YtkabcgmegljebaaGreatDoorW.PrintMore
open Go.Proofs.YtkabcgmegljebaaGreatDoor.Q Go.Proofs.YtkabcgmegljebaaGreatDoor.H
theorem xfM (o : S37) (h : 2 ≤ o.f0 ∧ o.f0 ≤ 7) : ((xbZ (treeO o)).1 == 0) = fieldsB (termO o) := by
 obtain ⟨o0, o1, o2, o3, o4, o5, o6, o7, o8⟩ := o
 simp only at h
 have h1 : o0 = 2 ∨ o0 = 3 ∨ o0 = 4 ∨ o0 = 5 ∨ o0 = 6 ∨ o0 = 7 := by omega
 rcases h1 with rfl | rfl | rfl | rfl | rfl | rfl
 ·
  change ((xbZ [⟨2, 0, 0, o1, o2, o3, o4, o5, o6, o7, o8⟩]).1 == 0) = fieldsB ⟨2, 0, 0, o1, o2, o3, o4, o5, o6, o7, o8⟩
  unfold xbZ ckGo
  generalize fieldsB _ = b
  cases b <;> rfl
 ·
  change ((xbZ [⟨3, 0, 0, o1, o2, o3, o4, o5, o6, o7, o8⟩]).1 == 0) = fieldsB ⟨3, 0, 0, o1, o2, o3, o4, o5, o6, o7, o8⟩
  unfold xbZ ckGo
  generalize fieldsB _ = b
  cases b <;> rfl
 ·
  change ((xbZ [zeroT, ⟨4, 0, 0, o1, o2, o3, o4, o5, o6, o7, o8⟩]).1 == 0) = fieldsB ⟨4, 0, 0, o1, o2, o3, o4, o5, o6, o7, o8⟩
  unfold xbZ ckGo
  rw [show fieldsB zeroT = true by decide]
  unfold ckGo
  generalize fieldsB _ = b
  cases b <;> rfl
 ·
  change ((xbZ [zeroT, ⟨6, 0, 0, o1, o2, o3, o4, o5, o6, o7, o8⟩]).1 == 0) = fieldsB ⟨6, 0, 0, o1, o2, o3, o4, o5, o6, o7, o8⟩
  unfold xbZ ckGo
  rw [show fieldsB zeroT = true by decide]
  unfold ckGo
  generalize fieldsB _ = b
  cases b <;> rfl
 ·
  change ((xbZ [zeroT, ⟨7, 0, 0, o1, o2, o3, o4, o5, o6, o7, o8⟩]).1 == 0) = fieldsB ⟨7, 0, 0, o1, o2, o3, o4, o5, o6, o7, o8⟩
  unfold xbZ ckGo
  rw [show fieldsB zeroT = true by decide]
  unfold ckGo
  generalize fieldsB _ = b
  cases b <;> rfl
 ·
  change ((xbZ [zeroT, ⟨8, 0, 0, o1, o2, o3, o4, o5, o6, o7, o8⟩]).1 == 0) = fieldsB ⟨8, 0, 0, o1, o2, o3, o4, o5, o6, o7, o8⟩
  unfold xbZ ckGo
  rw [show fieldsB zeroT = true by decide]
  unfold ckGo
  generalize fieldsB _ = b
  cases b <;> rfl
theorem fitP2 (o1 o2 : Nat) (o3 o4 o5 o6 o7 o8 : Int) : xbE ⟨2, o1, o2, o3, o4, o5, o6, o7, o8⟩ = (decide (o2 = 0 ∧ o4 = 0 ∧ o6 = 0 ∧ o7 = 0 ∧ o8 = 0) && numB o1 && decide (1 ≤ o5 ∧ o5 ≤ 8) && inB o3 0 109572) := by
 have h := xfM ⟨2, o1, o2, o3, o4, o5, o6, o7, o8⟩ (show (2 : Int) ≤ 2 ∧ (2 : Int) ≤ 7 by decide)
 change xbE ⟨2, o1, o2, o3, o4, o5, o6, o7, o8⟩ = fieldsB ⟨2, 0, 0, o1, o2, o3, o4, o5, o6, o7, o8⟩ at h
 rw [h, Bool.eq_iff_iff]
 simp [fieldsB, okT, keptT, sameT, sameB, inB]
 grind
theorem fitP3 (o1 o2 : Nat) (o3 o4 o5 o6 o7 o8 : Int) : xbE ⟨3, o1, o2, o3, o4, o5, o6, o7, o8⟩ = (decide (o8 = 0) && numB o1 && numB o2 && inB o6 1 5 && inB o3 0 109572 && inB o4 0 109572 && decide (o3 < o4) && inB o7 1 1200 && decide (1 ≤ o5 ∧ o5 ≤ 8)) := by
 have h := xfM ⟨3, o1, o2, o3, o4, o5, o6, o7, o8⟩ (show (2 : Int) ≤ 3 ∧ (3 : Int) ≤ 7 by decide)
 change xbE ⟨3, o1, o2, o3, o4, o5, o6, o7, o8⟩ = fieldsB ⟨3, 0, 0, o1, o2, o3, o4, o5, o6, o7, o8⟩ at h
 rw [h, Bool.eq_iff_iff]
 simp [fieldsB, okT, keptT, sameT, sameB, inB]
 grind
theorem fitP4 (o1 o2 : Nat) (o3 o4 o5 o6 o7 o8 : Int) : xbE ⟨4, o1, o2, o3, o4, o5, o6, o7, o8⟩ = (decide (o1 = 0 ∧ o2 = 0 ∧ o3 = 0 ∧ o4 = 0 ∧ o5 = 0 ∧ o6 = 0 ∧ o7 = 0 ∧ o8 = 0)) := by
 have h := xfM ⟨4, o1, o2, o3, o4, o5, o6, o7, o8⟩ (show (2 : Int) ≤ 4 ∧ (4 : Int) ≤ 7 by decide)
 change xbE ⟨4, o1, o2, o3, o4, o5, o6, o7, o8⟩ = fieldsB ⟨4, 0, 0, o1, o2, o3, o4, o5, o6, o7, o8⟩ at h
 rw [h, Bool.eq_iff_iff]
 simp [fieldsB, okT, keptT, sameT, sameB, inB]
 grind
theorem fitP5 (o1 o2 : Nat) (o3 o4 o5 o6 o7 o8 : Int) : xbE ⟨5, o1, o2, o3, o4, o5, o6, o7, o8⟩ = (decide (o2 = 0 ∧ o3 = 0 ∧ o4 = 0 ∧ o5 = 0 ∧ o6 = 0 ∧ o7 = 0 ∧ o8 = 0) && numB o1) := by
 have h := xfM ⟨5, o1, o2, o3, o4, o5, o6, o7, o8⟩ (show (2 : Int) ≤ 5 ∧ (5 : Int) ≤ 7 by decide)
 change xbE ⟨5, o1, o2, o3, o4, o5, o6, o7, o8⟩ = fieldsB ⟨6, 0, 0, o1, o2, o3, o4, o5, o6, o7, o8⟩ at h
 rw [h, Bool.eq_iff_iff]
 simp [fieldsB, okT, keptT, sameT, sameB, inB]
 grind
theorem fitP6 (o1 o2 : Nat) (o3 o4 o5 o6 o7 o8 : Int) : xbE ⟨6, o1, o2, o3, o4, o5, o6, o7, o8⟩ = (decide (o1 = 0 ∧ o2 = 0 ∧ o5 = 0 ∧ o6 = 0 ∧ o7 = 0 ∧ o8 = 0) && inB o3 0 109572 && inB o4 0 109572) := by
 have h := xfM ⟨6, o1, o2, o3, o4, o5, o6, o7, o8⟩ (show (2 : Int) ≤ 6 ∧ (6 : Int) ≤ 7 by decide)
 change xbE ⟨6, o1, o2, o3, o4, o5, o6, o7, o8⟩ = fieldsB ⟨7, 0, 0, o1, o2, o3, o4, o5, o6, o7, o8⟩ at h
 rw [h, Bool.eq_iff_iff]
 simp [fieldsB, okT, keptT, sameT, sameB, inB]
 grind
theorem fitP7 (o1 o2 : Nat) (o3 o4 o5 o6 o7 o8 : Int) : xbE ⟨7, o1, o2, o3, o4, o5, o6, o7, o8⟩ = (decide (o1 = 0 ∧ o2 = 0 ∧ o3 = 0 ∧ o4 = 0 ∧ o5 = 0 ∧ o6 = 0) && inB o7 1 4096 && inB o8 1 1200) := by
 have h := xfM ⟨7, o1, o2, o3, o4, o5, o6, o7, o8⟩ (show (2 : Int) ≤ 7 ∧ (7 : Int) ≤ 7 by decide)
 change xbE ⟨7, o1, o2, o3, o4, o5, o6, o7, o8⟩ = fieldsB ⟨8, 0, 0, o1, o2, o3, o4, o5, o6, o7, o8⟩ at h
 rw [h, Bool.eq_iff_iff]
 simp [fieldsB, okT, keptT, sameT, sameB, inB]
 grind
theorem fitMark (o1 o2 : Nat) (o3 o4 o5 o6 o7 o8 : Int) (w : World) : Calls Tryz.prog 59 #[(.agg #[.int .i64 1, .int .u64 (o1 : Int), .int .u64 (o2 : Int), .int .i64 o3, .int .i64 o4, .int .i64 o5, .int .i64 o6, .int .i64 o7, .int .i64 o8])] w fun e w' => e = .returned (.bool (xbE ⟨1, o1, o2, o3, o4, o5, o6, o7, o8⟩)) ∧ Below w.heap.size w w' := by
 have hf : xbE ⟨1, o1, o2, o3, o4, o5, o6, o7, o8⟩ = decide (o1 = 0 ∧ o2 = 0 ∧ o3 = 0 ∧ o4 = 0 ∧ o5 = 0 ∧ o6 = 0 ∧ o7 = 0 ∧ o8 = 0) := by
  rw [Bool.eq_iff_iff]; simp [xbE]; grind
 rw [hf]
 clear hf
 have HB : xaA (Below w.heap.size w w) := ⟨Below.refl _ _⟩
 go_enter Tryz.func59, Tryz.ntmps59
 go_upto_region 1 with ((with_reducible refine xaJ (N := 1) rfl ?_); refine bxv 1 #[.int .i64 1, .int .u64 (o1 : Int), .int .u64 (o2 : Int), .int .i64 o3, .int .i64 o4, .int .i64 o5, .int .i64 o6, .int .i64 o7, .int .i64 o8] 77 ?_; intro o hg w1 hbox hb; have Bo := am hbox; have HBo := HB; replace HB := am (xaC HB.out hb); have HGo := am hg; have HLo := am (xaM hbox); clear hb hbox hg; have co_ := cz9 Bo)
 go_wp2_with fail
 skip
 all_goals
  go_ret
  exact ⟨congrArg (fun b => Ending.returned (Value.bool b)) (by simp [*]), HB.out⟩
theorem xgP (o0 : Int) (o1 o2 : Nat) (o3 o4 o5 o6 o7 o8 : Int) (w : World) (F : Bool) (h1 : o0 ≠ 1) (h0 : tk o0 ≠ 0) (hF : ∀ w, Calls Tryz.prog 80 #[(.agg #[.int .i64 (tk o0), .int .i64 0, .int .i64 0, .int .u64 (o1 : Int), .int .u64 (o2 : Int), .int .i64 o3, .int .i64 o4, .int .i64 o5, .int .i64 o6, .int .i64 o7, .int .i64 o8])] w fun e w' => e = .returned (.bool F) ∧ Below w.heap.size w w') : Calls Tryz.prog 59 #[(.agg #[.int .i64 o0, .int .u64 (o1 : Int), .int .u64 (o2 : Int), .int .i64 o3, .int .i64 o4, .int .i64 o5, .int .i64 o6, .int .i64 o7, .int .i64 o8])] w fun e w' => e = .returned (.bool F) ∧ Below w.heap.size w w' := by
 have ht := fun w => xiT o0 o1 o2 o3 o4 o5 o6 o7 o8 w
 obtain ⟨tn, htn⟩ : ∃ tn, tn = tk o0 := ⟨_, rfl⟩
 rw [← htn] at ht hF h0
 have HT := am ht;have HF := am hF
 have g1 : (o0 == 1) = false := beq_eq_false_iff_ne.2 h1
 have g2 : (tn != 0) = true := bne_iff_ne.2 h0
 clear htn ht hF h1 h0
 have HB : xaA (Below w.heap.size w w) := ⟨Below.refl _ _⟩
 go_enter Tryz.func59, Tryz.ntmps59
 go_upto_region 1 with ((with_reducible refine xaJ (N := 1) rfl ?_); refine bxv 1 #[.int .i64 o0, .int .u64 (o1 : Int), .int .u64 (o2 : Int), .int .i64 o3, .int .i64 o4, .int .i64 o5, .int .i64 o6, .int .i64 o7, .int .i64 o8] 77 ?_; intro o hg w1 hbox hb; have Bo := am hbox; have HBo := HB; replace HB := am (xaC HB.out hb); have HGo := am hg; have HLo := am (xaM hbox); clear hb hbox hg; have co_ := cz9 Bo)
 clear HBo HGo HLo
 go_upto_region 4 with (first | (go_at_call 61; go_loud ((with_reducible refine (HT.out _).mono ?_); rintro z w2 ⟨rfl, hb⟩; replace HB := am (xaC HB.out hb); clear hb)) | ((with_reducible refine xaJ (N := 3) rfl ?_); refine bxv 3 #[.int .i64 0, .int .i64 0, .int .i64 0, .int .u64 0, .int .u64 0, .int .i64 0, .int .i64 0, .int .i64 0, .int .i64 0, .int .i64 0, .int .i64 0] 109 ?_; intro t hg w3 hbox hb; have Bt := am hbox; have HBt := HB; replace HB := am (xaC HB.out hb); have HGt := am hg; have HLt := am (xaM hbox); clear hb hbox hg; have ct_ := cz11 Bt))
 have ht0 : xaA (w.heap.size ≤ t) := ⟨by have h1 := HGt.out; have h2 := HBt.out.size; omega⟩
 clear co_
 skip
 obtain ⟨w4, hwz⟩ : ∃ w4, setL w3 t 0 [.int .i64 tn, .int .i64 0, .int .i64 0, .int .u64 (o1 : Int), .int .u64 (o2 : Int), .int .i64 o3, .int .i64 o4, .int .i64 o5, .int .i64 o6, .int .i64 o7, .int .i64 o8] = w4 := ⟨_, rfl⟩
 replace Bt := am (hwz ▸ xbD (vs := [.int .i64 tn, .int .i64 0, .int .i64 0, .int .u64 (o1 : Int), .int .u64 (o2 : Int), .int .i64 o3, .int .i64 o4, .int .i64 o5, .int .i64 o6, .int .i64 o7, .int .i64 o8]) Bt.out rfl)
 replace HB := am (hwz ▸ xaY ht0.out _ 0 _ HB.out)
 simp only [setL, Nat.reduceAdd] at hwz
 rw [hwz]
 clear hwz ct_;have ct_ := ce11 Bt
 go_wp2_with (go_at_call 80; go_loud ((with_reducible refine (HF.out _).mono ?_); rintro z w5 ⟨rfl, hb⟩; replace HB := am (xaC HB.out hb); clear hb))
 skip
 go_ret
 exact ⟨rfl, HB.out⟩
theorem fitNone (o0 : Int) (o1 o2 : Nat) (o3 o4 o5 o6 o7 o8 : Int) (w : World) (h1 : o0 ≠ 1) (h0 : tk o0 = 0) : Calls Tryz.prog 59 #[(.agg #[.int .i64 o0, .int .u64 (o1 : Int), .int .u64 (o2 : Int), .int .i64 o3, .int .i64 o4, .int .i64 o5, .int .i64 o6, .int .i64 o7, .int .i64 o8])] w fun e w' => e = .returned (.bool false) ∧ Below w.heap.size w w' := by
 have ht := fun w => xiT o0 o1 o2 o3 o4 o5 o6 o7 o8 w
 rw [h0] at ht
 have HT := am ht
 have g1 : (o0 == 1) = false := beq_eq_false_iff_ne.2 h1
 clear ht h1 h0
 have HB : xaA (Below w.heap.size w w) := ⟨Below.refl _ _⟩
 go_enter Tryz.func59, Tryz.ntmps59
 go_upto_region 1 with ((with_reducible refine xaJ (N := 1) rfl ?_); refine bxv 1 #[.int .i64 o0, .int .u64 (o1 : Int), .int .u64 (o2 : Int), .int .i64 o3, .int .i64 o4, .int .i64 o5, .int .i64 o6, .int .i64 o7, .int .i64 o8] 77 ?_; intro o hg w1 hbox hb; have Bo := am hbox; have HBo := HB; replace HB := am (xaC HB.out hb); have HGo := am hg; have HLo := am (xaM hbox); clear hb hbox hg; have co_ := cz9 Bo)
 clear HBo HGo HLo
 go_upto_region 4 with (first | (go_at_call 61; go_loud ((with_reducible refine (HT.out _).mono ?_); rintro z w2 ⟨rfl, hb⟩; replace HB := am (xaC HB.out hb); clear hb)) | ((with_reducible refine xaJ (N := 3) rfl ?_); refine bxv 3 #[.int .i64 0, .int .i64 0, .int .i64 0, .int .u64 0, .int .u64 0, .int .i64 0, .int .i64 0, .int .i64 0, .int .i64 0, .int .i64 0, .int .i64 0] 109 ?_; intro t hg w3 hbox hb; have Bt := am hbox; have HBt := HB; replace HB := am (xaC HB.out hb); have HGt := am hg; have HLt := am (xaM hbox); clear hb hbox hg; have ct_0 : w3.cell? ⟨t, 0, none⟩ = some (.int .i64 0) := (xaB Bt.out 0).trans rfl; have zt_0 := xaE Bt.out 0; have ct_1 : w3.cell? ⟨t, 1, none⟩ = some (.int .i64 0) := (xaB Bt.out 1).trans rfl; have zt_1 := xaE Bt.out 1; have ct_2 : w3.cell? ⟨t, 2, none⟩ = some (.int .i64 0) := (xaB Bt.out 2).trans rfl; have zt_2 := xaE Bt.out 2; have ct_3 : w3.cell? ⟨t, 3, none⟩ = some (.int .u64 0) := (xaB Bt.out 3).trans rfl; have zt_3 := xaE Bt.out 3; have ct_4 : w3.cell? ⟨t, 4, none⟩ = some (.int .u64 0) := (xaB Bt.out 4).trans rfl; have zt_4 := xaE Bt.out 4; have ct_5 : w3.cell? ⟨t, 5, none⟩ = some (.int .i64 0) := (xaB Bt.out 5).trans rfl; have zt_5 := xaE Bt.out 5; have ct_6 : w3.cell? ⟨t, 6, none⟩ = some (.int .i64 0) := (xaB Bt.out 6).trans rfl; have zt_6 := xaE Bt.out 6; have ct_7 : w3.cell? ⟨t, 7, none⟩ = some (.int .i64 0) := (xaB Bt.out 7).trans rfl; have zt_7 := xaE Bt.out 7; have ct_8 : w3.cell? ⟨t, 8, none⟩ = some (.int .i64 0) := (xaB Bt.out 8).trans rfl; have zt_8 := xaE Bt.out 8; have ct_9 : w3.cell? ⟨t, 9, none⟩ = some (.int .i64 0) := (xaB Bt.out 9).trans rfl; have zt_9 := xaE Bt.out 9; have ct_10 : w3.cell? ⟨t, 10, none⟩ = some (.int .i64 0) := (xaB Bt.out 10).trans rfl; have zt_10 := xaE Bt.out 10))
 have ht0 : xaA (w.heap.size ≤ t) := ⟨by have h1 := HGt.out; have h2 := HBt.out.size; omega⟩
 clear co_
 obtain ⟨w4, hwz⟩ : ∃ w4, setL w3 t 0 [.int .i64 0, .int .i64 0, .int .i64 0, .int .u64 (o1 : Int), .int .u64 (o2 : Int), .int .i64 o3, .int .i64 o4, .int .i64 o5, .int .i64 o6, .int .i64 o7, .int .i64 o8] = w4 := ⟨_, rfl⟩
 replace Bt := am (hwz ▸ xbD (vs := [.int .i64 0, .int .i64 0, .int .i64 0, .int .u64 (o1 : Int), .int .u64 (o2 : Int), .int .i64 o3, .int .i64 o4, .int .i64 o5, .int .i64 o6, .int .i64 o7, .int .i64 o8]) Bt.out rfl)
 replace HB := am (hwz ▸ xaY ht0.out _ 0 _ HB.out)
 simp only [setL, Nat.reduceAdd] at hwz
 rw [hwz]
 clear hwz ct_0 ct_1 ct_2 ct_3 ct_4 ct_5 ct_6 ct_7 ct_8 ct_9 ct_10 zt_0 zt_1 zt_2 zt_3 zt_4 zt_5 zt_6 zt_7 zt_8 zt_9 zt_10
 have ct_0 : w4.cell? ⟨t, 0, none⟩ = some (.int .i64 0) := (xaB Bt.out 0).trans rfl
 go_wp2_with fail
 skip
 go_ret
 exact ⟨rfl, HB.out⟩
theorem tk_none {o0 : Int} (h : ¬ (2 ≤ o0 ∧ o0 ≤ 7)) : tk o0 = 0 := by
 unfold tk tkGo
 repeat unfold tkGo
 have h1 : ∀ k : Int, kindF k = 0 ∨ (2 ≤ kindF k ∧ kindF k ≤ 7) := fun k => by unfold kindF; grind
 have hn : ∀ k : Int, ¬ (kindF k = o0 ∧ o0 ≠ 0) := fun k hk => by have := h1 k; omega
 simp only [hn, if_false]
theorem fit_c (o : S37) (w : World) : Calls Tryz.prog 59 #[opV o] w fun e w' => e = .returned (.bool (xbE o)) ∧ Below w.heap.size w w' := by
 obtain ⟨o0, o1, o2, o3, o4, o5, o6, o7, o8⟩ := o
 by_cases h1 : o0 = 1
 ·
  subst h1; exact fitMark o1 o2 o3 o4 o5 o6 o7 o8 w
 by_cases h : 2 ≤ o0 ∧ o0 ≤ 7
 ·
  have h2 : o0 = 2 ∨ o0 = 3 ∨ o0 = 4 ∨ o0 = 5 ∨ o0 = 6 ∨ o0 = 7 := by omega
  rcases h2 with rfl | rfl | rfl | rfl | rfl | rfl
  ·
   rw [fitP2]; exact xgP 2 o1 o2 o3 o4 o5 o6 o7 o8 w _ h1 (by decide) (fun w => fields2 o1 o2 o3 o4 o5 o6 o7 o8 w _ _ _ _ rfl rfl rfl rfl )
  ·
   rw [fitP3]; exact xgP 3 o1 o2 o3 o4 o5 o6 o7 o8 w _ h1 (by decide) (fun w => fields3 o1 o2 o3 o4 o5 o6 o7 o8 w _ _ _ _ _ _ _ _ _ rfl rfl rfl rfl rfl rfl rfl rfl rfl )
  ·
   rw [fitP4]; exact xgP 4 o1 o2 o3 o4 o5 o6 o7 o8 w _ h1 (by decide) (fun w => fields4 o1 o2 o3 o4 o5 o6 o7 o8 w _ rfl )
  ·
   rw [fitP5]; exact xgP 5 o1 o2 o3 o4 o5 o6 o7 o8 w _ h1 (by decide) (fun w => fields6 o1 o2 o3 o4 o5 o6 o7 o8 w _ _ rfl rfl )
  ·
   rw [fitP6]; exact xgP 6 o1 o2 o3 o4 o5 o6 o7 o8 w _ h1 (by decide) (fun w => fields7 o1 o2 o3 o4 o5 o6 o7 o8 w _ _ _ rfl rfl rfl )
  ·
   rw [fitP7]; exact xgP 7 o1 o2 o3 o4 o5 o6 o7 o8 w _ h1 (by decide) (fun w => fields8 o1 o2 o3 o4 o5 o6 o7 o8 w _ _ _ rfl rfl rfl )
 ·
  have hf : xbE ⟨o0, o1, o2, o3, o4, o5, o6, o7, o8⟩ = false := by unfold xbE; rw [if_pos (show o0 < 1 ∨ 7 < o0 by omega)]
  rw [hf]
  exact fitNone o0 o1 o2 o3 o4 o5 o6 o7 o8 w h1 (tk_none h)
theorem xcQ {w w' : World} {ad : Addr} {i : Nat} {o : S37} (h : opC w ad i o) (hb : Below w.heap.size w w') : opC w' ad i o := by
  obtain ⟨h0, h1, h2, h3, h4, h5, h6, h7, h8⟩ := h
  exact ⟨(hb.cell (clt h0)).trans h0, (hb.cell (clt h1)).trans h1, (hb.cell (clt h2)).trans h2, (hb.cell (clt h3)).trans h3, (hb.cell (clt h4)).trans h4, (hb.cell (clt h5)).trans h5, (hb.cell (clt h6)).trans h6, (hb.cell (clt h7)).trans h7, (hb.cell (clt h8)).trans h8⟩
theorem xlR (l : List S37) (A : Option Addr) (c : Nat) (w : World) (hr : Kd.C k77 w A l.length (l.map ofO)) : Calls Tryz.prog 37 #[.slice A l.length c] w fun e w' => e = .returned (.tuple #[.int .i64 (chk l).1, .int .i64 (chk l).2.1]) ∧ Below w.heap.size w w' := by
 have HR := am hr;clear hr
 by_cases h1 : 8192 < l.length
 ·
  have t1 : decide ((8192 : Int) < (l.length : Int)) = true := decide_eq_true (by omega)
  have e : chk l = (2, 0, 0) := by unfold chk; rw [if_pos h1]
  rw [e]
  clear e h1
  go_enter Tryz.func37, Tryz.ntmps37
  go_wp2_with fail
  go_ret2
  exact ⟨rfl, Below.refl _ _⟩
 have t1 : decide ((8192 : Int) < (l.length : Int)) = false := decide_eq_false (by omega)
 have e : chk l = chkGo l 0 0 0 := by unfold chk; rw [if_neg h1]
 generalize hres : chk l = res at e ⊢
 have HL : xaA (l.length ≤ 8192) := ⟨by omega⟩
 have HE : xaA (chkGo (l.drop 0) ((0 : Nat) : Int) 0 0 = res) := ⟨e.symm⟩
 clear e hres h1
 go_enter Tryz.func37, Tryz.ntmps37
 go_wp2_with fail
 skip
 go_loopg [4, 5] l.length (fun kq v4 v5 w' => ∃ (i : Nat) (m most : Int), kq + i = l.length ∧ i ≤ l.length ∧ v4 = .int .i64 m ∧ v5 = .int .i64 (i : Int) ∧ xaA (0 ≤ m ∧ m ≤ 63 ∧ chkGo (l.drop i) (i : Int) m most = res) ∧ xaA (Below w.heap.size w w'))
 case atStart => exact ⟨0, 0, 0, rfl, Nat.zero_le _, rfl, rfl, ⟨by omega, by omega, HE.out⟩, ⟨Below.refl _ _⟩⟩
 case round =>
  obtain ⟨i, m, most, hk, hi, rfl, rfl, HC, HBW⟩ := hrel
  have hm := HC.out.1;have hm2 := HC.out.2.1
  by_cases hlt : i < l.length
  ·
   have t2 : decide ((i : Int) < (l.length : Int)) = true := decide_eq_true (by omega)
   have b1 : IntKind.i64.wrap ((i : Int) + 1) = ((i + 1 : Nat) : Int) := by rw [i64_w]; unfold wrap64; have := HL.out; omega
   obtain ⟨ad, e, hop⟩ := at_op (Kd.xaQ HR.out HBW.out) i hlt rfl
   subst e;have hdr := List.drop_eq_getElem_cons hlt
   obtain ⟨x, hx⟩ : ∃ x, x = l[i] := ⟨_, rfl⟩
   rw [← hx] at hop hdr
   clear hx;have HOP := am hop
   obtain ⟨h0, h1, h2, h3, h4, h5, h6, h7, h8⟩ := hop
   have hfit : ∀ w, Calls Tryz.prog 59 #[(.agg #[.int .i64 x.f0, .int .u64 (x.f1 : Int), .int .u64 (x.f2 : Int), .int .i64 x.f3, .int .i64 x.f4, .int .i64 x.f5, .int .i64 x.f6, .int .i64 x.f7, .int .i64 x.f8])] w fun e w' => e = .returned (.bool (xbE x)) ∧ Below w.heap.size w w' := fun w => fit_c x w
   have htk : ∀ w, Calls Tryz.prog 60 #[(.agg #[.int .i64 x.f0, .int .u64 (x.f1 : Int), .int .u64 (x.f2 : Int), .int .i64 x.f3, .int .i64 x.f4, .int .i64 x.f5, .int .i64 x.f6, .int .i64 x.f7, .int .i64 x.f8])] w fun e w' => e = .returned (.bool (xfT x.f0)) ∧ Below w.heap.size w w' := fun w => takes_c x.f0 x.f1 x.f2 x.f3 x.f4 x.f5 x.f6 x.f7 x.f8 w
   have hst : ∀ r, chkGo (x :: l.drop (i + 1)) (i : Int) m most = r → res = r := fun r h => by rw [← HC.out.2.2, hdr, h]
   have hnx : chkGo (x :: l.drop (i + 1)) (i : Int) m most = res := by rw [← hdr]; exact HC.out.2.2
   have HST := am hst;have HNX := am hnx
   have hkd : xbE x = true → 1 ≤ x.f0 ∧ x.f0 ≤ 7 := fun h => (xfE h).1
   clear hst hnx hdr HC
   by_cases a1 : xbE x = true
   rotate_left
   ·
    replace a1 := Bool.eq_false_iff.2 a1
    rw [a1] at hfit
    have HFIT := am hfit;have HTK := am htk;have HA := am a1;clear hfit htk a1 hkd
    go_wp2_with (first | (go_at_call 59; go_loud ((with_reducible refine (HFIT.out _).mono ?_); rintro z w2 ⟨rfl, hb⟩; replace HBW := am (xaC HBW.out hb); replace HOP := am (xcQ HOP.out hb); clear h0 h1 h2 h3 h4 h5 h6 h7 h8; obtain ⟨h0, h1, h2, h3, h4, h5, h6, h7, h8⟩ := HOP.out; clear hb)) | (go_at_call 60; go_loud ((with_reducible refine (HTK.out _).mono ?_); rintro z w3 ⟨rfl, hb⟩; replace HBW := am (xaC HBW.out hb); replace HOP := am (xcQ HOP.out hb); clear h0 h1 h2 h3 h4 h5 h6 h7 h8; obtain ⟨h0, h1, h2, h3, h4, h5, h6, h7, h8⟩ := HOP.out; clear hb)))
    skip
    have e := HST.out (180, (i : Int), 0) (by rw [chkGo, if_pos HA.out])
    rw [e]
    go_ret2
    exact ⟨rfl, HBW.out⟩
   have hk7 := hkd a1
   rw [a1] at hfit
   have HFIT := am hfit
   have HA := am (show ¬ xbE x = false by rw [a1]; decide)
   clear hfit a1 hkd
   by_cases a2 : 4 ≤ x.f0
   ·
    have ht : xfT x.f0 = true := by unfold xfT; simp [a2, hk7.2]
    rw [ht] at htk
    have HTK := am htk
    have ad2 : ¬ addsB x.f0 = true := by unfold addsB; simp; omega
    have t3 : (x.f0 == 1) = false := beq_eq_false_iff_ne.2 (by omega)
    have a3 : ¬ x.f0 = 1 := by omega
    have HA2 := am ad2;have HA3 := am a3;clear htk ht ad2 a3 a2 hk7
    by_cases a5 : m = 0
    ·
     subst a5
     go_wp2_with (first | (go_at_call 59; go_loud ((with_reducible refine (HFIT.out _).mono ?_); rintro z w2 ⟨rfl, hb⟩; replace HBW := am (xaC HBW.out hb); replace HOP := am (xcQ HOP.out hb); clear h0 h1 h2 h3 h4 h5 h6 h7 h8; obtain ⟨h0, h1, h2, h3, h4, h5, h6, h7, h8⟩ := HOP.out; clear hb)) | (go_at_call 60; go_loud ((with_reducible refine (HTK.out _).mono ?_); rintro z w3 ⟨rfl, hb⟩; replace HBW := am (xaC HBW.out hb); replace HOP := am (xcQ HOP.out hb); clear h0 h1 h2 h3 h4 h5 h6 h7 h8; obtain ⟨h0, h1, h2, h3, h4, h5, h6, h7, h8⟩ := HOP.out; clear hb)))
     skip
     have e := HST.out (180, (i : Int), 0) (by rw [chkGo, if_neg HA.out, if_neg HA2.out, if_neg HA3.out, if_pos rfl])
     rw [e]
     go_ret2
     exact ⟨rfl, HBW.out⟩
    ·
     have u1 : (m == 0) = false := beq_eq_false_iff_ne.2 a5
     have hw1 : IntKind.i64.wrap (m - 1) = m - 1 := by rw [i64_w]; unfold wrap64; omega
     have HA5 := am a5;clear a5
     go_wp2_with (first | (go_at_call 59; go_loud ((with_reducible refine (HFIT.out _).mono ?_); rintro z w2 ⟨rfl, hb⟩; replace HBW := am (xaC HBW.out hb); replace HOP := am (xcQ HOP.out hb); clear h0 h1 h2 h3 h4 h5 h6 h7 h8; obtain ⟨h0, h1, h2, h3, h4, h5, h6, h7, h8⟩ := HOP.out; clear hb)) | (go_at_call 60; go_loud ((with_reducible refine (HTK.out _).mono ?_); rintro z w3 ⟨rfl, hb⟩; replace HBW := am (xaC HBW.out hb); replace HOP := am (xcQ HOP.out hb); clear h0 h1 h2 h3 h4 h5 h6 h7 h8; obtain ⟨h0, h1, h2, h3, h4, h5, h6, h7, h8⟩ := HOP.out; clear hb)))
     skip
     go_roundg (gk - 1)
     case measure => omega
     case rel => exact ⟨i + 1, m - 1, most, by omega, by omega, rfl, by first | rfl | rw [b1], ⟨by have := HA5.out; omega, by omega, by rw [← HNX.out, chkGo, if_neg HA.out, if_neg HA2.out, if_neg HA3.out, if_neg HA5.out]; rfl⟩, HBW⟩
   have ht : xfT x.f0 = false := by unfold xfT; simp; omega
   rw [ht] at htk
   have HTK := am htk;clear htk ht
   by_cases a3 : x.f0 = 1
   ·
    have ad2 : ¬ addsB x.f0 = true := by unfold addsB; rw [a3]; decide
    have t3 : (x.f0 == 1) = true := beq_iff_eq.2 a3
    have HA2 := am ad2;have HA3 := am a3
    have hw1 : IntKind.i64.wrap (m + 1) = m + 1 := by rw [i64_w]; unfold wrap64; omega
    clear ad2 a3 a2 hk7
    by_cases a4 : 63 < m + 1
    ·
     have u1 : decide (63 < m + 1) = true := decide_eq_true a4
     have HA4 := am a4;clear a4
     go_wp2_with (first | (go_at_call 59; go_loud ((with_reducible refine (HFIT.out _).mono ?_); rintro z w2 ⟨rfl, hb⟩; replace HBW := am (xaC HBW.out hb); replace HOP := am (xcQ HOP.out hb); clear h0 h1 h2 h3 h4 h5 h6 h7 h8; obtain ⟨h0, h1, h2, h3, h4, h5, h6, h7, h8⟩ := HOP.out; clear hb)) | (go_at_call 60; go_loud ((with_reducible refine (HTK.out _).mono ?_); rintro z w3 ⟨rfl, hb⟩; replace HBW := am (xaC HBW.out hb); replace HOP := am (xcQ HOP.out hb); clear h0 h1 h2 h3 h4 h5 h6 h7 h8; obtain ⟨h0, h1, h2, h3, h4, h5, h6, h7, h8⟩ := HOP.out; clear hb)))
     skip
     have e := HST.out (172, (i : Int), 0) (by rw [chkGo, if_neg HA.out, if_neg HA2.out, if_pos HA3.out, if_pos HA4.out])
     rw [e]
     go_ret2
     exact ⟨rfl, HBW.out⟩
    ·
     have u1 : decide (63 < m + 1) = false := decide_eq_false a4
     have HA4 := am a4;clear a4
     go_wp2_with (first | (go_at_call 59; go_loud ((with_reducible refine (HFIT.out _).mono ?_); rintro z w2 ⟨rfl, hb⟩; replace HBW := am (xaC HBW.out hb); replace HOP := am (xcQ HOP.out hb); clear h0 h1 h2 h3 h4 h5 h6 h7 h8; obtain ⟨h0, h1, h2, h3, h4, h5, h6, h7, h8⟩ := HOP.out; clear hb)) | (go_at_call 60; go_loud ((with_reducible refine (HTK.out _).mono ?_); rintro z w3 ⟨rfl, hb⟩; replace HBW := am (xaC HBW.out hb); replace HOP := am (xcQ HOP.out hb); clear h0 h1 h2 h3 h4 h5 h6 h7 h8; obtain ⟨h0, h1, h2, h3, h4, h5, h6, h7, h8⟩ := HOP.out; clear hb)))
     skip
     go_roundg (gk - 1)
     case measure => omega
     case rel => exact ⟨i + 1, m + 1, max most (m + 1), by omega, by omega, rfl, by first | rfl | rw [b1], ⟨by omega, by have := HA4.out; omega, by rw [← HNX.out, chkGo, if_neg HA.out, if_neg HA2.out, if_pos HA3.out, if_neg (by have := HA4.out; omega)]; rfl⟩, HBW⟩
   ·
    have ad2 : addsB x.f0 = true := by unfold addsB; simp; omega
    have t3 : (x.f0 == 1) = false := beq_eq_false_iff_ne.2 a3
    have HA2 := am ad2;clear ad2 a3 a2 hk7
    go_wp2_with (first | (go_at_call 59; go_loud ((with_reducible refine (HFIT.out _).mono ?_); rintro z w2 ⟨rfl, hb⟩; replace HBW := am (xaC HBW.out hb); replace HOP := am (xcQ HOP.out hb); clear h0 h1 h2 h3 h4 h5 h6 h7 h8; obtain ⟨h0, h1, h2, h3, h4, h5, h6, h7, h8⟩ := HOP.out; clear hb)) | (go_at_call 60; go_loud ((with_reducible refine (HTK.out _).mono ?_); rintro z w3 ⟨rfl, hb⟩; replace HBW := am (xaC HBW.out hb); replace HOP := am (xcQ HOP.out hb); clear h0 h1 h2 h3 h4 h5 h6 h7 h8; obtain ⟨h0, h1, h2, h3, h4, h5, h6, h7, h8⟩ := HOP.out; clear hb)))
    skip
    go_roundg (gk - 1)
    case measure => omega
    case rel => exact ⟨i + 1, m, most, by omega, by omega, rfl, by first | rfl | rw [b1], ⟨by omega, by omega, by rw [← HNX.out, chkGo, if_neg HA.out, if_pos HA2.out]; rfl⟩, HBW⟩
  ·
   have t2 : decide ((i : Int) < (l.length : Int)) = false := decide_eq_false (by omega)
   have hil : i = l.length := by omega
   have he := HC.out.2.2
   rw [List.drop_eq_nil_of_le (by omega), chkGo] at he
   by_cases a6 : 0 < m
   ·
    have u1 : decide (0 < m) = true := decide_eq_true a6
    rw [if_pos a6] at he
    have HI := am hil;have HRE := am he;clear he hil a6
    go_wp2_with fail
    go_ret2
    exact ⟨by rw [← HRE.out, HI.out]; rfl, HBW.out⟩
   ·
    have u1 : decide (0 < m) = false := decide_eq_false a6
    rw [if_neg a6] at he
    have HRE := am he;clear he hil a6
    go_wp2_with fail
    go_ret2
    exact ⟨by rw [← HRE.out]; first | done | rfl, HBW.out⟩
theorem neg_bit {x : Nat} (h : x < 18446744073709551616) : Op.negFloat .f64 x < 18446744073709551616 := by
  unfold Op.negFloat
  exact Nat.xor_lt_two_pow (n := 64) h (by decide)
theorem pay_bit (kind cur : Int) (x y : Nat) : ∀ (l : List S145) (acc : List S48), Bit acc → Bit (xdC kind cur x y l acc).1
 | [], acc, h => h
 | p :: ps, acc, h => by
  rw [xdC]
  by_cases he : (paidF kind cur x y p).2 = 0
  ·
   rw [if_pos he]
   refine pay_bit kind cur x y ps _ (fun f hf => (List.mem_append.1 hf).elim (h f) (fun hf => ?_))
   rw [List.mem_singleton.1 hf]
   unfold paidF at he ⊢
   cases hr : floatBits .mul .f64 (mulN x y) (yearF kind p.f2 p.f3) with
   | none => rw [hr] at he; cases he
   | some r =>
    rw [hr] at he
    simp only at he ⊢
    by_cases hn : numB r = true
    ·
     rw [if_pos hn]; exact Ieee.Format.mul_lt Ieee.double hr
    ·
     rw [if_neg hn] at he; cases he
  ·
   rw [if_neg he]; exact fun f hf => (by cases hf)
theorem fix_bit (o : S37) : Bit (fixF o).1 := by
 unfold fixF legF
 split
 ·
  exact pay_bit _ _ _ _ _ [] (fun f hf => (by cases hf))
 ·
  exact fun f hf => (by cases hf)
theorem xiX (mo : Int) : ∀ (r : List (Int × S48)) (acc : List S48), Bit acc → (∀ p ∈ r, p.2.f1 < 18446744073709551616) → Bit (pushes mo acc r).1
 | [], acc, h, _ => h
 | p :: r, acc, h, h2 => by
  unfold pushes
  split
  ·
   exact h
  ·
   split
   ·
    exact xiX mo r _ (fun f hf => (List.mem_append.1 hf).elim (h f) (fun hf => by rw [List.mem_singleton.1 hf]; exact h2 p (List.mem_cons_self ..))) (fun q hq => h2 q (List.mem_cons_of_mem _ hq))
   ·
    exact h
theorem try_bit {o : S37} {fl : List S48} {ms : List Int} (hb : Bit fl) (hn : ∀ f ∈ fl, numB f.f1 = true) (h1 : o.f1 < 18446744073709551616) (hx : o.f0 = 5 → numB o.f1 = true) : Bit (tryO (fixF o) o fl ms).1 := by
 have hnil : Bit [] := fun f hf => (by cases hf)
 have hap : ∀ {a b : List S48}, Bit a → Bit b → Bit (a ++ b) := fun ha hb f hf => (List.mem_append.1 hf).elim (ha f) (hb f)
 have hpu : ∀ {a b : List S48}, Bit a → Bit b → Bit (pushF a b).1 := fun ha hb => by
  unfold pushF; split
  ·
   exact hnil
  ·
   exact hap ha hb
 have htk : ∀ m, Bit (fl.take m) := fun m f hf => hb f (List.mem_of_mem_take hf)
 have hdr : ∀ m, Bit (fl.drop m) := fun m f hf => hb f (List.mem_of_mem_drop hf)
 unfold tryO
 split
 ·
  exact hpu hb (fun f hf => by rw [List.mem_singleton.1 hf]; exact h1)
 ·
  split
  ·
   split
   ·
    exact hpu hb (fix_bit o)
   ·
    exact hnil
  ·
   unfold turnF
   split
   ·
    refine hap (htk _) (fun f hf => ?_)
    obtain ⟨g, hg, rfl⟩ := List.mem_map.1 hf
    exact neg_bit (hdr _ g hg)
   ·
    split
    ·
     rename_i h5
     split
     ·
      refine hap (htk _) (fun f hf => ?_)
      obtain ⟨g, hg, rfl⟩ := List.mem_map.1 hf
      exact Ieee.Format.mul_lt Ieee.double (xfP (hx h5) (hn g (List.mem_of_mem_drop hg)))
     ·
      exact hnil
    ·
     split
     ·
      exact hap (htk _) (fun f hf => hdr _ f (List.mem_filter.1 hf).1)
     ·
      split
      ·
       refine xiX _ _ _ hb (fun p hp => ?_)
       unfold pairs at hp
       obtain ⟨j, _, hp⟩ := List.mem_flatMap.1 hp
       obtain ⟨f, hf, rfl⟩ := List.mem_map.1 hp
       exact hdr _ f hf
      ·
       exact hnil
structure CodeW (l : List S37) : Prop where
  f : ∀ o ∈ l, xbE o = true
  b : ∀ o ∈ l, o.f1 < 18446744073709551616 ∧ o.f2 < 18446744073709551616
theorem xjG {l : List S37} (h : (chk l).1 = 0) : ∀ o ∈ l, xbE o = true := by
 have hl : l.length ≤ 8192 := (xeZ h).1.len
 have hgo : (chkGo l 0 0 0).1 = 0 := by unfold chk at h; rw [if_neg (by omega)] at h; exact h
 exact (xkN l 0 0 0 0 (Int.le_refl _) (Int.le_refl _) (by omega) hgo).1
theorem one_bit {s : St} (hg : H.Good fixF s.code) (hi : Inv s) (hw : CodeW s.code) (h : goes s = true) (hb : Bit s.flows) : Bit (one fixF s).flows := by
 obtain ⟨ho, hne, hm⟩ := xhD hg hi h
 show Bit (doOp (fixF (H.opAt s)) (H.opAt s) s.flows s.marks).1
 by_cases h1 : (H.opAt s).f0 = 1
 ·
  unfold doOp act; rw [if_pos h1]; exact hb
 ·
  rw [do_try _ _ _ _ h1 ho.kind hi.ok.len]
  split
  ·
   exact try_bit hb hi.ok.num (hw.b _ hm).1 (fun h5 => ho.x (Or.inr h5))
  ·
   exact hb
def mV (Al : Option Addr) (cl : Nat) (Af : Option Addr) (cf : Nat) (Am : Option Addr) (cm : Nat) (s : St) : Value := .agg #[.slice Al s.code.length cl, .int .i64 s.loc, .slice Af s.flows.length cf, .slice Am s.marks.length cm, .bool s.ended, .int .i64 s.fault]
structure Dm (w : World) (base : Nat) (F : Nat → Prop) (Al : Option Addr) (cl : Nat) (Af : Option Addr) (cf : Nat) (Am : Option Addr) (cm : Nat) (s : St) : Prop where
 l : Sl k77 77 w base (own Al) Al cl (s.code.map ofO)
 f : Sl k79 79 w base F Af cf (s.flows.map ofF)
 m : Sl (Kd.int .i64) 3 w base F Am cm s.marks
 hF : ∀ k, F k → base ≤ k ∧ k < w.heap.size
 hb : base ≤ w.heap.size
 hc : ∀ k, own Al k → ¬ F k
section
variable {w w1 : World} {base : Nat} {F : Nat → Prop} {Al Af Am : Option Addr} {cl cf cm : Nat} {s : St}
theorem Dm.below (h : Dm w base F Al cl Af cf Am cm s) (hb : Below w.heap.size w w1) : Dm w1 base F Al cl Af cf Am cm s :=
  ⟨h.l.below hb, h.f.below hb, h.m.below hb, fun k hk => ⟨(h.hF k hk).1, Nat.lt_of_lt_of_le (h.hF k hk).2 hb.size⟩, Nat.le_trans h.hb hb.size, h.hc⟩
theorem Dm.other {G : Nat → Prop} (h : Dm w base F Al cl Af cf Am cm s) (hf : Fr G w w1) (hd : ∀ k, F k → ¬ G k) (hdc : ∀ k, own Al k → ¬ G k) : Dm w1 base F Al cl Af cf Am cm s :=
  ⟨h.l.fr hf hdc, h.f.fr hf hd, h.m.fr hf hd, fun k hk => ⟨(h.hF k hk).1, Nat.lt_of_lt_of_le (h.hF k hk).2 hf.size⟩, Nat.le_trans h.hb hf.size, h.hc⟩
theorem Dm.flag (h : Dm w base F Al cl Af cf Am cm s) (b : Bool) : Dm w base F Al cl Af cf Am cm { s with ended := b } := ⟨h.l, h.f, h.m, h.hF, h.hb, h.hc⟩
theorem Dm.xbY (h : Dm w base F Al cl Af cf Am cm s) : ∀ k, own Al k → k < w.heap.size := fun k hk => (h.l.xfB k hk).2
theorem Dm.turned {s' : St} {Af' Am' : Option Addr} {cf' cm' : Nat} (h : Dm w base F Al cl Af cf Am cm s) (hc : s'.code = s.code) (hf : Sl k79 79 w1 base (Gr F w.heap.size w1.heap.size) Af' cf' (s'.flows.map ofF)) (hm : Sl (Kd.int .i64) 3 w1 base (Gr F w.heap.size w1.heap.size) Am' cm' s'.marks) (hr : Fr F w w1) : Dm w1 base (Gr F w.heap.size w1.heap.size) Al cl Af' cf' Am' cm' s' :=
  ⟨by rw [hc]; exact h.l.fr hr h.hc, hf, hm, gr_bd h.hF h.hb hr.size, Nat.le_trans h.hb hr.size, fun k hk hg => hg.elim (h.hc k hk) (fun h1 => by have := h.xbY k hk; omega)⟩
def sD (s : St) : St := { s with ended := decide (s.fault ≠ 0) }
theorem one_c (h : Dm w base F Al cl Af cf Am cm s) (hg : H.Good fixF s.code) (hi : Inv s) (hw : CodeW s.code) (hgo : goes s = true) (he : s.ended = false) (hb : Bit s.flows) :
  Calls Tryz.prog 39 #[mV Al cl Af cf Am cm s] w fun e w' => ∃ Af' cf' Am' cm', e = .returned (mV Al cl Af' cf' Am' cm' (sD (one fixF s))) ∧ Dm w' base (Gr F w.heap.size w'.heap.size) Al cl Af' cf' Am' cm' (sD (one fixF s)) ∧ Fr F w w' := by
 obtain ⟨h1, h2⟩ := xdW.1 hgo
 obtain ⟨ho, hne, hm⟩ := xhD hg hi hgo
 have hfo := hw.f _ hm;have hbo := hw.b _ hm
 obtain ⟨q, hq⟩ : ∃ q : Nat, s.loc = (q : Int) := ⟨s.loc.toNat, by have := hi.loc.1; omega⟩
 have hql : q < s.code.length := by omega
 have hop := xmF hi.loc.1 (show s.loc.toNat < s.code.length by omega)
 have hcq : s.code[q] = H.opAt s := by rw [hop]; congr 1; omega
 have hml : s.marks.length ≤ 8192 := by have := hi.ml; omega
 have hkey : Calls Tryz.prog 39 #[.agg #[.slice Al s.code.length cl, .int .i64 (q : Int), .slice Af s.flows.length cf, .slice Am s.marks.length cm, .bool false, .int .i64 0]] w (OneP base F w Al s.code.length cl q (doOp (fixF (H.opAt s)) (H.opAt s) s.flows s.marks)) := by
  have hfx : (H.opAt s).f0 = 3 → fieldsB (termO (H.opAt s)) = true := fun h3 => ((xfE hfo).2 (by omega)).1
  clear hop hm hfo
  generalize H.opAt s = oo at *
  obtain ⟨o0, o1, o2, o3, o4, o5, o6, o7, o8⟩ := oo
  have hk := ho.kind
  simp only at hk
  refine one_all o0 o1 o2 o3 o4 o5 o6 o7 o8 s.code q s.flows s.marks Al Af Am cl cf cm w h.l hql hcq hg.len h.f h.m hi.ok.len h.hb hk hml hbo (fun h3 => ?_) hne (fun m hm => (hi.ok.bd m hm).1) (fun k4 w' hb' => ?_)
  ·
   subst h3
   have hok := (xfR (hfx rfl)).1
   unfold okT termO at hok
   simp [xdS, rdI, xmM] at hok
   obtain ⟨⟨⟨⟨⟨⟨⟨hx, hy⟩, hc1⟩, ha⟩, hb1⟩, hab⟩, hn⟩, hcur⟩ := hok
   exact ⟨hc1, hcur, hx, hy, ⟨⟨ha.1, hab, hb1.2⟩, hn⟩⟩
  ·
   have hlm := hi.ok.last (hne k4)
   have hs := h.f.below hb'
   have hk4 : o0 = 4 ∨ o0 = 5 ∨ o0 = 6 ∨ o0 = 7 := by omega
   rcases hk4 with rfl | rfl | rfl | rfl
   ·
    exact turned4 o1 o2 o3 o4 o5 o6 o7 o8 s.flows (lastM s.marks) Af cf w' hs hlm hi.ok.len hb hi.ok.num
   ·
    exact turned5 o1 o2 o3 o4 o5 o6 o7 o8 s.flows (lastM s.marks) Af cf w' hs hlm hi.ok.len hb hi.ok.num hbo.1 (ho.x (Or.inr rfl))
   ·
    exact turned6 o1 o2 o3 o4 o5 o6 o7 o8 s.flows (lastM s.marks) Af cf w' hs hlm hi.ok.len hb hi.ok.num
   ·
    have hr := ho.rep rfl
    exact turned7 o1 o2 o3 o4 o5 o6 o7 o8 s.flows (lastM s.marks) Af cf w' hs hlm hi.ok.len hb hi.ok.num ⟨hr.1, hr.2.1⟩ ⟨hr.2.2.1, hr.2.2.2⟩
 unfold mV
 rw [hq, he, h2]
 refine hkey.mono ?_
 rintro e w' ⟨A', c', B', d', rfl, hf, hmk, hfr⟩
 refine ⟨A', c', B', d', ?_, h.turned (s' := sD (one fixF s)) rfl hf hmk hfr, hfr⟩
 show Ending.returned _ = Ending.returned (Value.agg #[.slice Al s.code.length cl, .int .i64 (s.loc + 1), _, _, _, _])
 rw [hq]
 rfl
end
theorem Dm.upto {w' : World} {base n0 : Nat} {F F' : Nat → Prop} {Al Af Am : Option Addr} {cl cf cm : Nat} {s : St} (h : Dm w' base F' Al cl Af cf Am cm s) (hs : ∀ k, F' k → F k ∨ n0 ≤ k) (hF : ∀ k, F k → base ≤ k ∧ k < n0) (hb : base ≤ n0) (hn : n0 ≤ w'.heap.size) (hl : ∀ k, own Al k → ¬ F k ∧ k < n0) : Dm w' base (Gr F n0 w'.heap.size) Al cl Af cf Am cm s :=
  ⟨h.l, h.f.mono (fun k hk hlt => (hs k hk).imp_right (fun h1 => ⟨h1, hlt⟩)), h.m.mono (fun k hk hlt => (hs k hk).imp_right (fun h1 => ⟨h1, hlt⟩)), gr_bd hF hb hn, h.hb, fun k hk hg => hg.elim (hl k hk).1 (fun h1 => by have := (hl k hk).2; omega)⟩
theorem step_no {w : World} {base : Nat} {F : Nat → Prop} {Al Af Am : Option Addr} {cl cf cm : Nat} {s : St} (h : Dm w base F Al cl Af cf Am cm s) (n er : Int) (hc : (s.ended = true ∧ er = 190) ∨ (s.ended = false ∧ n < 1 ∧ er = 1)) :
  Calls Tryz.prog 20 #[(.agg #[.slice Al s.code.length cl, .int .i64 s.loc, .slice Af s.flows.length cf, .slice Am s.marks.length cm, .bool s.ended, .int .i64 s.fault]), .int .i64 n] w fun e w' => e = .returned (.tuple #[(.agg #[.slice Al s.code.length cl, .int .i64 s.loc, .slice Af s.flows.length cf, .slice Am s.marks.length cm, .bool s.ended, .int .i64 s.fault]), .agg #[.int .i64 0, .bool false, .int .i64 0], .int .i64 er]) ∧ Below w.heap.size w w' := by
 have HB : xaA (Below w.heap.size w w) := ⟨Below.refl _ _⟩
 rcases hc with ⟨he, rfl⟩ | ⟨he, hn, rfl⟩
 ·
  rw [he]
  clear h he
  go_enter Tryz.func20, Tryz.ntmps20
  go_upto_region 1 with (first | ((with_reducible refine xaJ (N := 2) rfl ?_); refine bxv 2 #[.slice Al s.code.length cl, .int .i64 s.loc, .slice Af s.flows.length cf, .slice Am s.marks.length cm, .bool true, .int .i64 s.fault] 51 ?_; intro m hg w1 hbox hb; have Bm := am hbox; have HBm := HB; replace HB := am (xaC HB.out hb); have HGm := am hg; have HLm := am (xaM hbox); clear hb hbox hg) | ((with_reducible refine xaJ (N := 4) rfl ?_); refine bxv 4 #[.slice none 0 0, .int .i64 0, .slice none 0 0, .slice none 0 0, .bool false, .int .i64 0] 51 ?_; intro r hg w2 hbox hb; have Br := am hbox; replace Bm := am (xaD Bm.out hb); have HBr := HB; replace HB := am (xaC HB.out hb); have HGr := am hg; have HLr := am (xaM hbox); clear hb hbox hg) | ((with_reducible refine xaJ (N := 5) rfl ?_); refine bxv 5 #[.int .i64 0, .bool false, .int .i64 0] 56 ?_; intro p hg w3 hbox hb; have Bp := am hbox; replace Bm := am (xaD Bm.out hb); replace Br := am (xaD Br.out hb); have HBp := HB; replace HB := am (xaC HB.out hb); have HGp := am hg; have HLp := am (xaM hbox); clear hb hbox hg))
  have hm0 : xaA (w.heap.size ≤ m ∧ m < r ∧ r < p) := ⟨by have h1 := HGm.out; have h2 := HGr.out; have h3 := HLm.out; have h4 := HLr.out; have h5 := HGp.out; have h6 := HBr.out.size; have h7 := HBp.out.size; omega⟩
  clear HBm HBr HBp HGm HGr HGp HLm HLr;have cm_ := ce6 Bm;have cr_ := cz6 Br;have cp_ := cz3 Bp
  have hne1 : r ≠ p := by have := hm0.out; omega
  have hne2 : p ≠ r := by have := hm0.out; omega
  skip
  go_wp2_with fail
  skip
  clear cr_ cp_
  obtain ⟨wy, hwz⟩ : ∃ wy, setL w3 r 0 [.slice Al s.code.length cl, .int .i64 s.loc, .slice Af s.flows.length cf, .slice Am s.marks.length cm, .bool true, .int .i64 s.fault] = wy := ⟨_, rfl⟩
  replace HB := am (hwz ▸ xaY (show w.heap.size ≤ r by have := hm0.out; omega) [.slice Al s.code.length cl, .int .i64 s.loc, .slice Af s.flows.length cf, .slice Am s.marks.length cm, .bool true, .int .i64 s.fault] 0 _ HB.out)
  replace Br : xaA (wy.heap[r]? = some (.cells #[.slice Al s.code.length cl, .int .i64 s.loc, .slice Af s.flows.length cf, .slice Am s.marks.length cm, .bool true, .int .i64 s.fault] 51 (0, 0))) := ⟨hwz ▸ xbD (vs := [.slice Al s.code.length cl, .int .i64 s.loc, .slice Af s.flows.length cf, .slice Am s.marks.length cm, .bool true, .int .i64 s.fault]) Br.out rfl⟩
  replace Bp := am (hwz ▸ (xaW (show p ≠ r by have := hm0.out; omega) [.slice Al s.code.length cl, .int .i64 s.loc, .slice Af s.flows.length cf, .slice Am s.marks.length cm, .bool true, .int .i64 s.fault] 0 w3).trans Bp.out)
  simp only [setL, Nat.reduceAdd] at hwz
  rw [hwz]
  clear hwz
  obtain ⟨wz, hwz⟩ : ∃ wz, setL wy p 0 [.int .i64 0, .bool false, .int .i64 0] = wz := ⟨_, rfl⟩
  replace HB := am (hwz ▸ xaY (show w.heap.size ≤ p by have := hm0.out; omega) [.int .i64 0, .bool false, .int .i64 0] 0 _ HB.out)
  replace Bp : xaA (wz.heap[p]? = some (.cells #[.int .i64 0, .bool false, .int .i64 0] 56 (0, 0))) := ⟨hwz ▸ xbD (vs := [.int .i64 0, .bool false, .int .i64 0]) Bp.out rfl⟩
  replace Br := am (hwz ▸ (xaW (show r ≠ p by have := hm0.out; omega) [.int .i64 0, .bool false, .int .i64 0] 0 wy).trans Br.out)
  simp only [setL, Nat.reduceAdd] at hwz
  rw [hwz]
  clear hwz;have cr_ := ce6 Br;have cp_ := ce3 Bp
  refine bodyPost_ret (v := .tuple #[(.agg #[.slice Al s.code.length cl, .int .i64 s.loc, .slice Af s.flows.length cf, .slice Am s.marks.length cm, .bool true, .int .i64 s.fault]), (.agg #[.int .i64 0, .bool false, .int .i64 0]), .int .i64 190]) (by simp [results, Tryz.results20, go_sem, cr_, cp_]) rfl ?_
  exact ⟨rfl, HB.out⟩
 ·
  rw [he]
  have t1 : decide (n < 1) = true := decide_eq_true hn
  clear h he hn
  go_enter Tryz.func20, Tryz.ntmps20
  go_upto_region 1 with (first | ((with_reducible refine xaJ (N := 2) rfl ?_); refine bxv 2 #[.slice Al s.code.length cl, .int .i64 s.loc, .slice Af s.flows.length cf, .slice Am s.marks.length cm, .bool false, .int .i64 s.fault] 51 ?_; intro m hg w1 hbox hb; have Bm := am hbox; have HBm := HB; replace HB := am (xaC HB.out hb); have HGm := am hg; have HLm := am (xaM hbox); clear hb hbox hg) | ((with_reducible refine xaJ (N := 4) rfl ?_); refine bxv 4 #[.slice none 0 0, .int .i64 0, .slice none 0 0, .slice none 0 0, .bool false, .int .i64 0] 51 ?_; intro r hg w2 hbox hb; have Br := am hbox; replace Bm := am (xaD Bm.out hb); have HBr := HB; replace HB := am (xaC HB.out hb); have HGr := am hg; have HLr := am (xaM hbox); clear hb hbox hg) | ((with_reducible refine xaJ (N := 5) rfl ?_); refine bxv 5 #[.int .i64 0, .bool false, .int .i64 0] 56 ?_; intro p hg w3 hbox hb; have Bp := am hbox; replace Bm := am (xaD Bm.out hb); replace Br := am (xaD Br.out hb); have HBp := HB; replace HB := am (xaC HB.out hb); have HGp := am hg; have HLp := am (xaM hbox); clear hb hbox hg))
  have hm0 : xaA (w.heap.size ≤ m ∧ m < r ∧ r < p) := ⟨by have h1 := HGm.out; have h2 := HGr.out; have h3 := HLm.out; have h4 := HLr.out; have h5 := HGp.out; have h6 := HBr.out.size; have h7 := HBp.out.size; omega⟩
  clear HBm HBr HBp HGm HGr HGp HLm HLr;have cm_ := ce6 Bm;have cr_ := cz6 Br;have cp_ := cz3 Bp
  have hne1 : r ≠ p := by have := hm0.out; omega
  have hne2 : p ≠ r := by have := hm0.out; omega
  go_wp2_with fail
  clear cr_ cp_
  obtain ⟨wy, hwz⟩ : ∃ wy, setL w3 r 0 [.slice Al s.code.length cl, .int .i64 s.loc, .slice Af s.flows.length cf, .slice Am s.marks.length cm, .bool false, .int .i64 s.fault] = wy := ⟨_, rfl⟩
  replace HB := am (hwz ▸ xaY (show w.heap.size ≤ r by have := hm0.out; omega) [.slice Al s.code.length cl, .int .i64 s.loc, .slice Af s.flows.length cf, .slice Am s.marks.length cm, .bool false, .int .i64 s.fault] 0 _ HB.out)
  replace Br : xaA (wy.heap[r]? = some (.cells #[.slice Al s.code.length cl, .int .i64 s.loc, .slice Af s.flows.length cf, .slice Am s.marks.length cm, .bool false, .int .i64 s.fault] 51 (0, 0))) := ⟨hwz ▸ xbD (vs := [.slice Al s.code.length cl, .int .i64 s.loc, .slice Af s.flows.length cf, .slice Am s.marks.length cm, .bool false, .int .i64 s.fault]) Br.out rfl⟩
  replace Bp := am (hwz ▸ (xaW (show p ≠ r by have := hm0.out; omega) [.slice Al s.code.length cl, .int .i64 s.loc, .slice Af s.flows.length cf, .slice Am s.marks.length cm, .bool false, .int .i64 s.fault] 0 w3).trans Bp.out)
  simp only [setL, Nat.reduceAdd] at hwz
  rw [hwz]
  clear hwz
  obtain ⟨wz, hwz⟩ : ∃ wz, setL wy p 0 [.int .i64 0, .bool false, .int .i64 0] = wz := ⟨_, rfl⟩
  replace HB := am (hwz ▸ xaY (show w.heap.size ≤ p by have := hm0.out; omega) [.int .i64 0, .bool false, .int .i64 0] 0 _ HB.out)
  replace Bp : xaA (wz.heap[p]? = some (.cells #[.int .i64 0, .bool false, .int .i64 0] 56 (0, 0))) := ⟨hwz ▸ xbD (vs := [.int .i64 0, .bool false, .int .i64 0]) Bp.out rfl⟩
  replace Br := am (hwz ▸ (xaW (show r ≠ p by have := hm0.out; omega) [.int .i64 0, .bool false, .int .i64 0] 0 wy).trans Br.out)
  simp only [setL, Nat.reduceAdd] at hwz
  rw [hwz]
  clear hwz;have cr_ := ce6 Br;have cp_ := ce3 Bp
  refine bodyPost_ret (v := .tuple #[(.agg #[.slice Al s.code.length cl, .int .i64 s.loc, .slice Af s.flows.length cf, .slice Am s.marks.length cm, .bool false, .int .i64 s.fault]), (.agg #[.int .i64 0, .bool false, .int .i64 0]), .int .i64 1]) (by simp [results, Tryz.results20, go_sem, cr_, cp_]) rfl ?_
  exact ⟨rfl, HB.out⟩
theorem xdN {fxs : S37 → List S48 × Int} {k : Nat} {s : St} (h : k = 0 ∨ goes s = false) : H.runN fxs k s = (0, s) := by
 rcases h with rfl | h
 ·
  rfl
 ·
  cases k with
  | zero => rfl
  | succ k => rw [H.runN, if_neg (by rw [h]; decide)]
structure StI (s0 : St) (N j : Nat) (s : St) : Prop where
 one : (H.runN fixF N s0).1 = j + (H.runN fixF (N - j) s).1
 two : (H.runN fixF N s0).2 = (H.runN fixF (N - j) s).2
 le : j ≤ N
 code : s.code = s0.code
 inv : H.Inv s
 off : s.ended = false
 bit : Bit s.flows
theorem StI.step {s0 s : St} {N j : Nat} (h : StI s0 N j s) (hg : H.Good fixF s0.code) (hw : CodeW s0.code) (hj : j < N) (hgo : goes s = true) : StI s0 N (j + 1) (H.one fixF s) := by
 have e : H.runN fixF (N - j) s = ((H.runN fixF (N - (j + 1)) (H.one fixF s)).1 + 1, (H.runN fixF (N - (j + 1)) (H.one fixF s)).2) := by
  rw [show N - j = (N - (j + 1)) + 1 by omega, H.runN, if_pos hgo]
 refine ⟨?_, ?_, by omega, h.code, xhW (by rw [h.code]; exact hg) h.inv hgo, h.off, one_bit (by rw [h.code]; exact hg) h.inv (by rw [h.code]; exact hw) hgo h.bit⟩
 ·
  rw [h.one, e]; simp only; omega
 ·
  rw [h.two, e]
theorem step_go {w : World} {base : Nat} {F : Nat → Prop} {Al Af Am : Option Addr} {cl cf cm : Nat} {s : St} (h : Dm w base F Al cl Af cf Am cm s) (hg : H.Good fixF s.code) (hi : H.Inv s) (hw : CodeW s.code) (he : s.ended = false) (hf : s.fault = 0) (hb : Bit s.flows) (n : Int) (N : Nat) (hN : n = (N : Int)) (hn : 1 ≤ n ∧ n ≤ 9223372036854775807) :
  Calls Tryz.prog 20 #[(.agg #[.slice Al s.code.length cl, .int .i64 s.loc, .slice Af s.flows.length cf, .slice Am s.marks.length cm, .bool s.ended, .int .i64 s.fault]), .int .i64 n] w fun e w' => ∃ Af' cf' Am' cm', e = .returned (.tuple #[mV Al cl Af' cf' Am' cm' (ends (H.runN fixF N s).2), .agg #[.int .i64 (H.runN fixF N s).1, .bool (ends (H.runN fixF N s).2).ended, .int .i64 (H.runN fixF N s).2.fault], .int .i64 0]) ∧ Dm w' base (Gr F w.heap.size w'.heap.size) Al cl Af' cf' Am' cm' (ends (H.runN fixF N s).2) ∧ Fr F w w' := by
 have HB : xaA (Below w.heap.size w w) := ⟨Below.refl _ _⟩
 have t1 : decide (n < 1) = false := decide_eq_false (by omega)
 have HST : xaA (StI s N 0 s) := ⟨⟨by rw [Nat.sub_zero, Nat.zero_add], by rw [Nat.sub_zero], Nat.zero_le _, rfl, hi, he, hb⟩⟩
 have HD := am h;have HG := am hg;have HCW := am hw;have HNN := am hn;have HE := am he;have HFZ := am hf;subst hN
 rw [he, hf]
 clear h hg hi hw hb hn he hf
 go_enter Tryz.func20, Tryz.ntmps20
 go_upto_region 1 with (first | ((with_reducible refine xaJ (N := 2) rfl ?_); refine bxv 2 #[.slice Al s.code.length cl, .int .i64 s.loc, .slice Af s.flows.length cf, .slice Am s.marks.length cm, .bool false, .int .i64 0] 51 ?_; intro m hg w1 hbox hb; have Bm := am hbox; have HBm := HB; replace HB := am (xaC HB.out hb); have HGm := am hg; have HLm := am (xaM hbox); clear hb hbox hg) | ((with_reducible refine xaJ (N := 4) rfl ?_); refine bxv 4 #[.slice none 0 0, .int .i64 0, .slice none 0 0, .slice none 0 0, .bool false, .int .i64 0] 51 ?_; intro r hg w2 hbox hb; have Br := am hbox; replace Bm := am (xaD Bm.out hb); have HBr := HB; replace HB := am (xaC HB.out hb); have HGr := am hg; have HLr := am (xaM hbox); clear hb hbox hg) | ((with_reducible refine xaJ (N := 5) rfl ?_); refine bxv 5 #[.int .i64 0, .bool false, .int .i64 0] 56 ?_; intro p hg w3 hbox hb; have Bp := am hbox; replace Bm := am (xaD Bm.out hb); replace Br := am (xaD Br.out hb); have HBp := HB; replace HB := am (xaC HB.out hb); have HGp := am hg; have HLp := am (xaM hbox); clear hb hbox hg))
 have hm0 : xaA (w.heap.size ≤ m ∧ m < r ∧ r < p) := ⟨by have h1 := HGm.out; have h2 := HGr.out; have h3 := HLm.out; have h4 := HLr.out; have h5 := HGp.out; have h6 := HBr.out.size; have h7 := HBp.out.size; omega⟩
 clear HBm HBr HBp HGm HGr HGp HLm HLr;have HLp2 := HLp
 obtain ⟨cm_0, cm_1, cm_2, cm_3, cm_4, cm_5⟩ := ce6 Bm
 go_upto_block 0 with ((with_reducible refine xaJ (N := 7) rfl ?_); refine bxv 7 #[.int .i64 0, .bool false, .int .i64 0] 56 ?_; intro q hg w4 hbox hb; have Bq := am hbox; replace Bm := am (xaD Bm.out hb); replace Br := am (xaD Br.out hb); replace Bp := am (xaD Bp.out hb); have HBq := HB; replace HB := am (xaC HB.out hb); have HGq := am hg; have HLq := am (xaM hbox); clear hb hbox hg; have cq_ := cz3 Bq)
 have hq0 : xaA (w.heap.size ≤ q ∧ m < q ∧ r < q ∧ p < q) := ⟨by have h1 := HGq.out; have h2 := hm0.out; have h3 := HBq.out.size; have h4 := HLp2.out; omega⟩
 skip
 clear cm_0 cm_1 cm_2 cm_3 cm_4 cm_5 cq_
 obtain ⟨w5, hwz⟩ : ∃ w5, setL w4 q 0 [.int .i64 0, .bool false, .int .i64 0] = w5 := ⟨_, rfl⟩
 replace Bq := am (hwz ▸ xbD (vs := [.int .i64 0, .bool false, .int .i64 0]) Bq.out rfl)
 replace HB := am (hwz ▸ xaY hq0.out.1 _ 0 _ HB.out)
 have hwq := hwz
 simp only [setL, Nat.reduceAdd] at hwz
 rw [hwz]
 replace Bm : xaA (w5.heap[m]? = some (.cells #[.slice Al s.code.length cl, .int .i64 s.loc, .slice Af s.flows.length cf, .slice Am s.marks.length cm, .bool false, .int .i64 0] 51 (0, 0))) := ⟨hwq ▸ (xaW (show m ≠ q by have := hq0.out; omega) _ 0 w4).trans Bm.out⟩
 replace Br := am (hwq ▸ (xaW (show r ≠ q by have := hq0.out; omega) _ 0 w4).trans Br.out)
 replace Bp := am (hwq ▸ (xaW (show p ≠ q by have := hq0.out; omega) _ 0 w4).trans Bp.out)
 clear hwq hwz HBq HGq HLq HLp2
 have HF0 : xaA (¬ F m ∧ ¬ F r ∧ ¬ F p ∧ ¬ F q) := ⟨by
  have h1 := fun k hk => (HD.out.hF k hk).2
  have h2 := hm0.out;have h3 := hq0.out
  exact ⟨fun hk => by have := h1 _ hk; omega, fun hk => by have := h1 _ hk; omega, fun hk => by have := h1 _ hk; omega, fun hk => by have := h1 _ hk; omega⟩⟩
 skip
 go_cut [] from 17 to 39 (fun w' => ∃ (j : Nat) (s1 : St) (F1 : Nat → Prop) (Af1 : Option Addr) (cf1 : Nat) (Am1 : Option Addr) (cm1 : Nat) (fb : Bool), xaA (fb = decide (s1.fault ≠ 0)) ∧ xaA (H.runN fixF N s = (j, s1)) ∧ xaA (s1.code = s.code) ∧ xaA (Dm w' base F1 Al cl Af1 cf1 Am1 cm1 s1) ∧ xaA (Fr F w w') ∧ xaA (∀ k, F1 k → F k ∨ w.heap.size ≤ k) ∧ xaA (¬ F1 m ∧ ¬ F1 r ∧ ¬ F1 p ∧ ¬ F1 q) ∧ xaA (w'.heap[m]? = some (.cells #[.slice Al s.code.length cl, .int .i64 s1.loc, .slice Af1 s1.flows.length cf1, .slice Am1 s1.marks.length cm1, .bool fb, .int .i64 s1.fault] 51 (0, 0))) ∧ xaA (w'.heap[r]? = some (.cells #[.slice none 0 0, .int .i64 0, .slice none 0 0, .slice none 0 0, .bool false, .int .i64 0] 51 (0, 0))) ∧ xaA (w'.heap[p]? = some (.cells #[.int .i64 0, .bool false, .int .i64 0] 56 (0, 0))) ∧ xaA (w'.heap[q]? = some (.cells #[.int .i64 (j : Int), .bool false, .int .i64 0] 56 (0, 0))))
 case first =>
  go_wp2_with fail
  go_loopg [] (s.code.length - s.loc.toNat) (fun kq w' => ∃ (j : Nat) (s1 : St) (F1 : Nat → Prop) (Af1 : Option Addr) (cf1 : Nat) (Am1 : Option Addr) (cm1 : Nat), kq + s1.loc.toNat = s.code.length ∧ xaA (StI s N j s1) ∧ xaA (Dm w' base F1 Al cl Af1 cf1 Am1 cm1 s1) ∧ xaA (Fr F w w') ∧ xaA (∀ k, F1 k → F k ∨ w.heap.size ≤ k) ∧ xaA (¬ F1 m ∧ ¬ F1 r ∧ ¬ F1 p ∧ ¬ F1 q) ∧ xaA (w'.heap[m]? = some (.cells #[.slice Al s.code.length cl, .int .i64 s1.loc, .slice Af1 s1.flows.length cf1, .slice Am1 s1.marks.length cm1, .bool (decide (s1.fault ≠ 0)), .int .i64 s1.fault] 51 (0, 0))) ∧ xaA (w'.heap[r]? = some (.cells #[.slice none 0 0, .int .i64 0, .slice none 0 0, .slice none 0 0, .bool false, .int .i64 0] 51 (0, 0))) ∧ xaA (w'.heap[p]? = some (.cells #[.int .i64 0, .bool false, .int .i64 0] 56 (0, 0))) ∧ xaA (w'.heap[q]? = some (.cells #[.int .i64 (j : Int), .bool false, .int .i64 0] 56 (0, 0))))
  case atStart => exact ⟨0, s, F, Af, cf, Am, cm, by have := HST.out.inv.loc; omega, HST, ⟨HD.out.below HB.out⟩, ⟨(Fr.refl _ _).below HB.out⟩, ⟨fun k hk => Or.inl hk⟩, HF0, ⟨by rw [Bm.out, HFZ.out]; rfl⟩, Br, Bp, Bq⟩
  case round =>
   obtain ⟨j, s1, F1, Af1, cf1, Am1, cm1, hk, HI, HDM, HFR, HSUB, HNF, HBM, HBR, HBP, HBQ⟩ := hrel
   have hlo := HI.out.inv.loc
   rw [HI.out.code] at hlo
   obtain ⟨fb, hfb⟩ : ∃ fb, fb = decide (s1.fault ≠ 0) := ⟨_, rfl⟩
   rw [← hfb] at HBM
   have Bm := HBM;have Br := HBR;have Bp := HBP;have Bq := HBQ
   obtain ⟨cm_0, cm_1, cm_2, cm_3, cm_4, cm_5⟩ := ce6 Bm
   have cq_ := cz3 Bq;have hNj := HI.out.le
   by_cases hgo : j < N ∧ goes s1 = true
   ·
    obtain ⟨hj, hg1⟩ := hgo
    obtain ⟨hl1, hf1⟩ := xdW.1 hg1
    rw [HI.out.code] at hl1
    rw [hf1] at hfb
    have hfb0 : fb = false := hfb
    subst hfb0
    have u1 : decide ((j : Int) < (N : Int)) = true := decide_eq_true (by omega)
    have u2 : decide (s1.loc < (s.code.length : Int)) = true := decide_eq_true hl1
    have u3 : IntKind.i64.wrap ((j : Int) + 1) = (j : Int) + 1 := by rw [i64_w]; unfold wrap64; have := HNN.out; omega
    have hone := one_c HDM.out (by rw [HI.out.code]; exact HG.out) HI.out.inv (by rw [HI.out.code]; exact HCW.out) hg1 HI.out.off HI.out.bit
    have HI2 := am (HI.out.step HG.out HCW.out hj hg1)
    have hc2 := HI2.out.code
    have hloc2 : (H.one fixF s1).loc = s1.loc + 1 := rfl
    unfold mV at hone
    rw [HI.out.code, HI.out.off, hf1] at hone
    rw [hf1] at cm_5
    obtain ⟨s2, hs2⟩ : ∃ s2, s2 = H.one fixF s1 := ⟨_, rfl⟩
    rw [← hs2] at hone HI2 hc2 hloc2
    unfold sD at hone
    simp only [hc2] at hone
    obtain ⟨fb2, hfb2⟩ : ∃ fb2, fb2 = decide (s2.fault ≠ 0) := ⟨_, rfl⟩
    rw [← hfb2] at hone
    have HFB2 := am hfb2;have HC2 := am hc2;have HONE := am hone
    have HMS : xaA (gk - 1 < gk ∧ gk - 1 + s2.loc.toNat = s.code.length) := ⟨by omega, by rw [hloc2]; omega⟩
    clear hone hloc2 hlo hg1 hf1 hfb hs2 hc2 hl1 hfb2
    go_upto_region 8 with (go_at_call 39; go_loud ((with_reducible refine (HONE.out).mono ?_); rintro z w6 ⟨Af2, cf2, Am2, cm2, rfl, hd, hf⟩; have HD2 := am hd; have HF2 := am hf; have hN := HNF.out; replace Bm := am (hf.blk Bm.out hN.1); replace Br := am (hf.blk Br.out hN.2.1); replace Bp := am (hf.blk Bp.out hN.2.2.1); replace Bq := am (hf.blk Bq.out hN.2.2.2); clear hd hf hN; obtain ⟨zm_, cm_0, cm_1, cm_2, cm_3, cm_4, cm_5⟩ := cz6 Bm))
    skip
    clear cm_0 cm_1 cm_2 cm_3 cm_4 cm_5 zm_ cq_
    have HSZ : xaA (w.heap.size ≤ wr.heap.size ∧ wr.heap.size ≤ w6.heap.size) := ⟨HFR.out.size, HF2.out.size⟩
    have HFA : xaA (Fr F w w6) := ⟨HFR.out.trans (HF2.out.mono (fun k hlt hk => (HSUB.out k hk).imp_right (fun h => ⟨h, hlt⟩)))⟩
    have HNF2 : xaA (¬ Gr F1 wr.heap.size w6.heap.size m ∧ ¬ Gr F1 wr.heap.size w6.heap.size r ∧ ¬ Gr F1 wr.heap.size w6.heap.size p ∧ ¬ Gr F1 wr.heap.size w6.heap.size q) := ⟨by
     have h1 := HNF.out;have h2 := xaM HBM.out;have h3 := xaM HBR.out;have h4 := xaM HBP.out;have h5 := xaM HBQ.out
     exact ⟨fun h => h.elim h1.1 (fun h => by omega), fun h => h.elim h1.2.1 (fun h => by omega), fun h => h.elim h1.2.2.1 (fun h => by omega), fun h => h.elim h1.2.2.2 (fun h => by omega)⟩⟩
    have HSUB2 : xaA (∀ k, Gr F1 wr.heap.size w6.heap.size k → F k ∨ w.heap.size ≤ k) := ⟨fun k hk => hk.elim (HSUB.out k) (fun h => Or.inr (by have := HSZ.out; omega))⟩
    have HOL : xaA (∀ k, own Al k → ¬ (k = m ∨ k = q)) := ⟨fun k hk h => by have h1 := HD.out.xbY k hk; have h2 := hm0.out; have h3 := hq0.out; omega⟩
    have HDA : xaA (∀ w', Fr (fun k => k = m ∨ k = q) w6 w' → Dm w' base (Gr F1 wr.heap.size w6.heap.size) Al cl Af2 cf2 Am2 cm2 s2) := ⟨fun w' hf => by
     have h := HD2.out.other hf (fun k hk h => by have h1 := HNF2.out; rcases h with rfl | rfl; exact h1.1 hk; exact h1.2.2.2 hk) HOL.out
     exact ⟨by rw [HC2.out]; exact h.l, h.f, h.m, h.hF, h.hb, h.hc⟩⟩
    generalize hF9 : Gr F1 wr.heap.size w6.heap.size = F2 at *
    clear hF9 HD2 HF2 HNF HSUB HDM HFR HONE HOL
    obtain ⟨w7, hwz⟩ : ∃ w7, setL w6 m 0 [.slice Al s.code.length cl, .int .i64 s2.loc, .slice Af2 s2.flows.length cf2, .slice Am2 s2.marks.length cm2, .bool fb2, .int .i64 s2.fault] = w7 := ⟨_, rfl⟩
    have HFB := am (hwz ▸ xdG (G := fun k => k = m ∨ k = q) (w0 := w6) (Or.inl (Or.inl rfl)) [.slice Al s.code.length cl, .int .i64 s2.loc, .slice Af2 s2.flows.length cf2, .slice Am2 s2.marks.length cm2, .bool fb2, .int .i64 s2.fault] 0 w6 (Fr.refl _ _))
    replace HFA := am (hwz ▸ xdG (Or.inr hm0.out.1) [.slice Al s.code.length cl, .int .i64 s2.loc, .slice Af2 s2.flows.length cf2, .slice Am2 s2.marks.length cm2, .bool fb2, .int .i64 s2.fault] 0 _ HFA.out)
    replace Bm : xaA (w7.heap[m]? = some (.cells #[.slice Al s.code.length cl, .int .i64 s2.loc, .slice Af2 s2.flows.length cf2, .slice Am2 s2.marks.length cm2, .bool fb2, .int .i64 s2.fault] 51 (0, 0))) := ⟨hwz ▸ xbD (vs := [.slice Al s.code.length cl, .int .i64 s2.loc, .slice Af2 s2.flows.length cf2, .slice Am2 s2.marks.length cm2, .bool fb2, .int .i64 s2.fault]) Bm.out rfl⟩
    replace Br := am (hwz ▸ (xaW (show r ≠ m by have := hm0.out; omega) [.slice Al s.code.length cl, .int .i64 s2.loc, .slice Af2 s2.flows.length cf2, .slice Am2 s2.marks.length cm2, .bool fb2, .int .i64 s2.fault] 0 w6).trans Br.out)
    replace Bp := am (hwz ▸ (xaW (show p ≠ m by have := hm0.out; omega) [.slice Al s.code.length cl, .int .i64 s2.loc, .slice Af2 s2.flows.length cf2, .slice Am2 s2.marks.length cm2, .bool fb2, .int .i64 s2.fault] 0 w6).trans Bp.out)
    replace Bq := am (hwz ▸ (xaW (show q ≠ m by have := hq0.out; omega) [.slice Al s.code.length cl, .int .i64 s2.loc, .slice Af2 s2.flows.length cf2, .slice Am2 s2.marks.length cm2, .bool fb2, .int .i64 s2.fault] 0 w6).trans Bq.out)
    simp only [setL, Nat.reduceAdd] at hwz
    rw [hwz]
    clear hwz;have cq_ := cz3 Bq
    go_wp2_with fail
    skip
    obtain ⟨w8, hwz⟩ : ∃ w8, w7.setCell ⟨q, 0, none⟩ (.int .i64 ((j : Int) + 1)) = w8 := ⟨_, rfl⟩
    replace HFB := am (hwz ▸ HFB.out.set (p := ⟨q, 0, none⟩) (.int .i64 ((j : Int) + 1)) (Or.inl (Or.inr rfl)))
    replace HFA := am (hwz ▸ HFA.out.set (p := ⟨q, 0, none⟩) (.int .i64 ((j : Int) + 1)) (Or.inr hq0.out.1))
    replace Bm := am (hwz ▸ (Below.heap_setCell w7 ⟨q, 0, none⟩ (.int .i64 ((j : Int) + 1)) m (show m ≠ q by have := hq0.out; omega)).trans Bm.out)
    replace Br := am (hwz ▸ (Below.heap_setCell w7 ⟨q, 0, none⟩ (.int .i64 ((j : Int) + 1)) r (show r ≠ q by have := hq0.out; omega)).trans Br.out)
    replace Bp := am (hwz ▸ (Below.heap_setCell w7 ⟨q, 0, none⟩ (.int .i64 ((j : Int) + 1)) p (show p ≠ q by have := hq0.out; omega)).trans Bp.out)
    replace Bq : xaA (w8.heap[q]? = some (.cells #[.int .i64 ((j + 1 : Nat) : Int), .bool false, .int .i64 0] 56 (0, 0))) := ⟨hwz ▸ xaN Bq.out 0 (.int .i64 ((j : Int) + 1)) rfl⟩
    rw [hwz]
    clear hwz cq_
    go_roundg (gk - 1)
    case measure => exact HMS.out.1
    case rel => exact ⟨j + 1, s2, F2, Af2, cf2, Am2, cm2, HMS.out.2, HI2, ⟨HDA.out _ HFB.out⟩, HFA, HSUB2, HNF2, ⟨by rw [← HFB2.out]; exact Bm.out⟩, Br, Bp, Bq⟩
   ·
    have hstop : H.runN fixF (N - j) s1 = (0, s1) := xdN (by
     by_cases h1 : j < N
     ·
      exact Or.inr (by cases h : goes s1 with
       | false => rfl
       | true => exact absurd ⟨h1, h⟩ hgo)
     ·
      exact Or.inl (by omega))
    have HRR : xaA (H.runN fixF N s = (j, s1)) := ⟨Prod.ext (by rw [HI.out.one, hstop]; rfl) (by rw [HI.out.two, hstop])⟩
    have HFB := am hfb
    have hcase : decide ((j : Int) < (N : Int)) = false ∨ (decide ((j : Int) < (N : Int)) = true ∧ decide (s1.loc < (s.code.length : Int)) = false) ∨ (decide ((j : Int) < (N : Int)) = true ∧ decide (s1.loc < (s.code.length : Int)) = true ∧ fb = true) := by
     by_cases h1 : j < N
     ·
      have h2 : decide ((j : Int) < (N : Int)) = true := decide_eq_true (by omega)
      by_cases h3 : s1.loc < (s.code.length : Int)
      ·
       exact Or.inr (Or.inr ⟨h2, decide_eq_true h3, by rw [hfb]; exact decide_eq_true (fun h4 => hgo ⟨h1, xdW.2 ⟨by rw [HI.out.code]; exact h3, h4⟩⟩)⟩)
      ·
       exact Or.inr (Or.inl ⟨h2, decide_eq_false h3⟩)
     ·
      exact Or.inl (decide_eq_false (by omega))
    have HLC : xaA (s1.code = s.code) := ⟨HI.out.code⟩
    clear hstop hfb hgo hNj hlo
    have hnat : decide (j < N) = decide ((j : Int) < (N : Int)) := by simp
    rcases hcase with d1 | ⟨d1, d2⟩ | ⟨d1, d2, rfl⟩
    all_goals rw [d1] at hnat
    all_goals
     skip
     go_wp2_with fail
     skip
     go_meet
     case rel => exact ⟨j, s1, F1, Af1, cf1, Am1, cm1, _, HFB, HRR, HLC, HDM, HFR, HSUB, HNF, Bm, Br, Bp, Bq⟩
 case rest =>
  obtain ⟨j, s1, F1, Af1, cf1, Am1, cm1, fb, HFB, HRR, HLC, HDM, HFA, HSUB, HNF, Bm, Br, Bp, Bq⟩ := hcut
  obtain ⟨wl, hwl⟩ : ∃ wl, wl = wc := ⟨_, rfl⟩
  subst hwl
  have HFX : xaA (Fr (fun k => k = m ∨ k = r ∨ k = p ∨ k = q) wl wl) := ⟨Fr.refl _ _⟩
  obtain ⟨zm_, cm_0, cm_1, cm_2, cm_3, cm_4, cm_5⟩ := cz6 Bm
  obtain ⟨en, hen⟩ : ∃ en, en = (ends s1).ended := ⟨_, rfl⟩
  have hen2 : en = (decide (s1.loc = (s.code.length : Int)) || fb) := by rw [hen, HFB.out, ← HLC.out]; rfl
  have HEN := am hen;clear hen
  go_upto_if 45 with fail
  skip
  go_cut [] from 46 (fun wx => xaA (Fr F w wx) ∧ xaA (Fr (fun k => k = m ∨ k = r ∨ k = p ∨ k = q) wl wx) ∧ xaA (wx.heap[m]? = some (.cells #[.slice Al s.code.length cl, .int .i64 s1.loc, .slice Af1 s1.flows.length cf1, .slice Am1 s1.marks.length cm1, .bool en, .int .i64 s1.fault] 51 (0, 0))) ∧ xaA (wx.heap[r]? = some (.cells #[.slice none 0 0, .int .i64 0, .slice none 0 0, .slice none 0 0, .bool false, .int .i64 0] 51 (0, 0))) ∧ xaA (wx.heap[p]? = some (.cells #[.int .i64 0, .bool false, .int .i64 0] 56 (0, 0))) ∧ xaA (wx.heap[q]? = some (.cells #[.int .i64 (j : Int), .bool false, .int .i64 0] 56 (0, 0))))
  case first =>
   by_cases hle : s1.loc = (s.code.length : Int)
   ·
    have v1 : (s1.loc == (s.code.length : Int)) = true := beq_iff_eq.2 hle
    rw [hle, decide_eq_true rfl, Bool.true_or] at hen2
    subst hen2;clear hle
    go_wp2_with fail
    skip
    obtain ⟨wa, hwz⟩ : ∃ wa, wl.setCell ⟨m, 4, none⟩ (.bool true) = wa := ⟨_, rfl⟩
    replace HFA := am (hwz ▸ HFA.out.set (p := ⟨m, 4, none⟩) (.bool true) (Or.inr (show w.heap.size ≤ m by have h1 := hm0.out; have h2 := hq0.out; omega)))
    replace HFX := am (hwz ▸ HFX.out.set (p := ⟨m, 4, none⟩) (.bool true) (Or.inl (show m = m ∨ m = r ∨ m = p ∨ m = q by simp)))
    replace Br := am (hwz ▸ (Below.heap_setCell wl ⟨m, 4, none⟩ (.bool true) r (show r ≠ m by have h1 := hm0.out; have h2 := hq0.out; omega)).trans Br.out)
    replace Bp := am (hwz ▸ (Below.heap_setCell wl ⟨m, 4, none⟩ (.bool true) p (show p ≠ m by have h1 := hm0.out; have h2 := hq0.out; omega)).trans Bp.out)
    replace Bq := am (hwz ▸ (Below.heap_setCell wl ⟨m, 4, none⟩ (.bool true) q (show q ≠ m by have h1 := hm0.out; have h2 := hq0.out; omega)).trans Bq.out)
    replace Bm : xaA (wa.heap[m]? = some (.cells #[.slice Al s.code.length cl, .int .i64 s1.loc, .slice Af1 s1.flows.length cf1, .slice Am1 s1.marks.length cm1, .bool true, .int .i64 s1.fault] 51 (0, 0))) := ⟨hwz ▸ xaN Bm.out 4 (.bool true) rfl⟩
    rw [hwz]
    clear hwz
    go_meet
    case rel => exact ⟨HFA, HFX, Bm, Br, Bp, Bq⟩
   ·
    have v1 : (s1.loc == (s.code.length : Int)) = false := beq_eq_false_iff_ne.2 hle
    rw [decide_eq_false hle, Bool.false_or] at hen2
    subst hen2;clear hle
    go_wp2_with fail
    skip
    go_meet
    case rel => exact ⟨HFA, HFX, Bm, Br, Bp, Bq⟩
  case rest =>
   clear cm_0 cm_1 cm_2 cm_3 cm_4 cm_5 zm_ Bm Br Bp Bq HFA HFX hen2
   obtain ⟨HFA, HFX, Bm, Br, Bp, Bq⟩ := hcut
   obtain ⟨cm_0, cm_1, cm_2, cm_3, cm_4, cm_5⟩ := ce6 Bm
   have cq_ := cz3 Bq
   go_upto_region 12 with fail
   skip
   obtain ⟨wb, hwz⟩ : ∃ wb, wc.setCell ⟨q, 1, none⟩ (.bool en) = wb := ⟨_, rfl⟩
   replace HFA := am (hwz ▸ HFA.out.set (p := ⟨q, 1, none⟩) (.bool en) (Or.inr (show w.heap.size ≤ q by have h1 := hm0.out; have h2 := hq0.out; omega)))
   replace HFX := am (hwz ▸ HFX.out.set (p := ⟨q, 1, none⟩) (.bool en) (Or.inl (show q = m ∨ q = r ∨ q = p ∨ q = q by simp)))
   replace Bm := am (hwz ▸ (Below.heap_setCell wc ⟨q, 1, none⟩ (.bool en) m (show m ≠ q by have h1 := hm0.out; have h2 := hq0.out; omega)).trans Bm.out)
   replace Br := am (hwz ▸ (Below.heap_setCell wc ⟨q, 1, none⟩ (.bool en) r (show r ≠ q by have h1 := hm0.out; have h2 := hq0.out; omega)).trans Br.out)
   replace Bp := am (hwz ▸ (Below.heap_setCell wc ⟨q, 1, none⟩ (.bool en) p (show p ≠ q by have h1 := hm0.out; have h2 := hq0.out; omega)).trans Bp.out)
   replace Bq : xaA (wb.heap[q]? = some (.cells #[.int .i64 (j : Int), .bool en, .int .i64 0] 56 (0, 0))) := ⟨hwz ▸ xaN Bq.out 1 (.bool en) rfl⟩
   rw [hwz]
   clear hwz cm_0 cm_1 cm_2 cm_3 cm_4 cm_5 cq_
   obtain ⟨cm_0, cm_1, cm_2, cm_3, cm_4, cm_5⟩ := ce6 Bm
   have cq_ := cz3 Bq
   go_upto_region 13 with fail
   skip
   obtain ⟨wd, hwz⟩ : ∃ wd, wb.setCell ⟨q, 2, none⟩ (.int .i64 s1.fault) = wd := ⟨_, rfl⟩
   replace HFA := am (hwz ▸ HFA.out.set (p := ⟨q, 2, none⟩) (.int .i64 s1.fault) (Or.inr (show w.heap.size ≤ q by have h1 := hm0.out; have h2 := hq0.out; omega)))
   replace HFX := am (hwz ▸ HFX.out.set (p := ⟨q, 2, none⟩) (.int .i64 s1.fault) (Or.inl (show q = m ∨ q = r ∨ q = p ∨ q = q by simp)))
   replace Bm := am (hwz ▸ (Below.heap_setCell wb ⟨q, 2, none⟩ (.int .i64 s1.fault) m (show m ≠ q by have h1 := hm0.out; have h2 := hq0.out; omega)).trans Bm.out)
   replace Br := am (hwz ▸ (Below.heap_setCell wb ⟨q, 2, none⟩ (.int .i64 s1.fault) r (show r ≠ q by have h1 := hm0.out; have h2 := hq0.out; omega)).trans Br.out)
   replace Bp := am (hwz ▸ (Below.heap_setCell wb ⟨q, 2, none⟩ (.int .i64 s1.fault) p (show p ≠ q by have h1 := hm0.out; have h2 := hq0.out; omega)).trans Bp.out)
   replace Bq : xaA (wd.heap[q]? = some (.cells #[.int .i64 (j : Int), .bool en, .int .i64 s1.fault] 56 (0, 0))) := ⟨hwz ▸ xaN Bq.out 2 (.int .i64 s1.fault) rfl⟩
   rw [hwz]
   clear hwz cm_0 cm_1 cm_2 cm_3 cm_4 cm_5 cq_
   obtain ⟨cm_0, cm_1, cm_2, cm_3, cm_4, cm_5⟩ := ce6 Bm
   have cq_ := ce3 Bq;have cr_ := cz6 Br;have cp_ := cz3 Bp
   have hne1 : r ≠ p := by have := hm0.out; omega
   have hne2 : p ≠ r := by have := hm0.out; omega
   have hne3 : q ≠ r := by have := hq0.out; omega
   have hne4 : q ≠ p := by have := hq0.out; omega
   have hne5 : m ≠ r := by have := hm0.out; omega
   go_region
   skip
   clear cm_0 cm_1 cm_2 cm_3 cm_4 cm_5 cq_ cr_ cp_
   obtain ⟨we, hwz⟩ : ∃ we, setL wd r 0 [.slice Al s.code.length cl, .int .i64 s1.loc, .slice Af1 s1.flows.length cf1, .slice Am1 s1.marks.length cm1, .bool en, .int .i64 s1.fault] = we := ⟨_, rfl⟩
   replace HFA := am (hwz ▸ xdG (Or.inr (show w.heap.size ≤ r by have h1 := hm0.out; have h2 := hq0.out; omega)) [.slice Al s.code.length cl, .int .i64 s1.loc, .slice Af1 s1.flows.length cf1, .slice Am1 s1.marks.length cm1, .bool en, .int .i64 s1.fault] 0 _ HFA.out)
   replace HFX := am (hwz ▸ xdG (Or.inl (show r = m ∨ r = r ∨ r = p ∨ r = q by simp)) [.slice Al s.code.length cl, .int .i64 s1.loc, .slice Af1 s1.flows.length cf1, .slice Am1 s1.marks.length cm1, .bool en, .int .i64 s1.fault] 0 _ HFX.out)
   replace Bm := am (hwz ▸ (xaW (show m ≠ r by have h1 := hm0.out; have h2 := hq0.out; omega) [.slice Al s.code.length cl, .int .i64 s1.loc, .slice Af1 s1.flows.length cf1, .slice Am1 s1.marks.length cm1, .bool en, .int .i64 s1.fault] 0 wd).trans Bm.out)
   replace Bp := am (hwz ▸ (xaW (show p ≠ r by have h1 := hm0.out; have h2 := hq0.out; omega) [.slice Al s.code.length cl, .int .i64 s1.loc, .slice Af1 s1.flows.length cf1, .slice Am1 s1.marks.length cm1, .bool en, .int .i64 s1.fault] 0 wd).trans Bp.out)
   replace Bq := am (hwz ▸ (xaW (show q ≠ r by have h1 := hm0.out; have h2 := hq0.out; omega) [.slice Al s.code.length cl, .int .i64 s1.loc, .slice Af1 s1.flows.length cf1, .slice Am1 s1.marks.length cm1, .bool en, .int .i64 s1.fault] 0 wd).trans Bq.out)
   replace Br : xaA (we.heap[r]? = some (.cells #[.slice Al s.code.length cl, .int .i64 s1.loc, .slice Af1 s1.flows.length cf1, .slice Am1 s1.marks.length cm1, .bool en, .int .i64 s1.fault] 51 (0, 0))) := ⟨hwz ▸ xbD (vs := [.slice Al s.code.length cl, .int .i64 s1.loc, .slice Af1 s1.flows.length cf1, .slice Am1 s1.marks.length cm1, .bool en, .int .i64 s1.fault]) Br.out rfl⟩
   simp only [setL, Nat.reduceAdd] at hwz
   rw [hwz]
   clear hwz
   obtain ⟨wf, hwz⟩ : ∃ wf, setL we p 0 [.int .i64 (j : Int), .bool en, .int .i64 s1.fault] = wf := ⟨_, rfl⟩
   replace HFA := am (hwz ▸ xdG (Or.inr (show w.heap.size ≤ p by have h1 := hm0.out; have h2 := hq0.out; omega)) [.int .i64 (j : Int), .bool en, .int .i64 s1.fault] 0 _ HFA.out)
   replace HFX := am (hwz ▸ xdG (Or.inl (show p = m ∨ p = r ∨ p = p ∨ p = q by simp)) [.int .i64 (j : Int), .bool en, .int .i64 s1.fault] 0 _ HFX.out)
   replace Bm := am (hwz ▸ (xaW (show m ≠ p by have h1 := hm0.out; have h2 := hq0.out; omega) [.int .i64 (j : Int), .bool en, .int .i64 s1.fault] 0 we).trans Bm.out)
   replace Br := am (hwz ▸ (xaW (show r ≠ p by have h1 := hm0.out; have h2 := hq0.out; omega) [.int .i64 (j : Int), .bool en, .int .i64 s1.fault] 0 we).trans Br.out)
   replace Bq := am (hwz ▸ (xaW (show q ≠ p by have h1 := hm0.out; have h2 := hq0.out; omega) [.int .i64 (j : Int), .bool en, .int .i64 s1.fault] 0 we).trans Bq.out)
   replace Bp : xaA (wf.heap[p]? = some (.cells #[.int .i64 (j : Int), .bool en, .int .i64 s1.fault] 56 (0, 0))) := ⟨hwz ▸ xbD (vs := [.int .i64 (j : Int), .bool en, .int .i64 s1.fault]) Bp.out rfl⟩
   simp only [setL, Nat.reduceAdd] at hwz
   rw [hwz]
   clear hwz;have cr_ := ce6 Br;have cp_ := ce3 Bp
   go_wp2_with fail
   refine bodyPost_ret (v := .tuple #[(.agg #[.slice Al s.code.length cl, .int .i64 s1.loc, .slice Af1 s1.flows.length cf1, .slice Am1 s1.marks.length cm1, .bool en, .int .i64 s1.fault]), (.agg #[.int .i64 (j : Int), .bool en, .int .i64 s1.fault]), .int .i64 0]) (by simp [results, Tryz.results20, go_sem, cr_, cp_]) rfl ?_
   replace HFA := am HFA.out.drew;replace HFX := am HFX.out.drew
   have hD := (HDM.out.other HFX.out (fun k hk h => by have h1 := HNF.out; rcases h with rfl | rfl | rfl | rfl; exact h1.1 hk; exact h1.2.1 hk; exact h1.2.2.1 hk; exact h1.2.2.2 hk) (fun k hk h => by have h1 := HD.out.xbY k hk; have h2 := hm0.out; have h3 := hq0.out; omega)).upto HSUB.out HD.out.hF HD.out.hb HFA.out.size (fun k hk => ⟨HD.out.hc k hk, HD.out.xbY k hk⟩)
   refine ⟨Af1, cf1, Am1, cm1, ?_, ?_, HFA.out⟩
   ·
    rw [HRR.out, HEN.out]
    unfold mV
    simp only
    rw [show (ends s1).code = s.code from HLC.out]
    rfl
   ·
    rw [HRR.out]
    exact hD.flag (decide (s1.loc = (s1.code.length : Int)) || decide (s1.fault ≠ 0))
end Go.Proofs.YtkabcgmegljebaaGreatDoor.D
