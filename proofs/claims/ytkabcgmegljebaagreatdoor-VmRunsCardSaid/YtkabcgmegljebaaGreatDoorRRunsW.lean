/- The walk of the law VmRuns: it tells true. Condition: the table of kinds; the floats are floats. -/
import Derived.Test.YtkabcgmegljebaaGreatDoorRGR
import Derived.Test.YtkabcgmegljebaaGreatDoorRGU
set_option maxHeartbeats 8000000
set_option maxRecDepth 100000
set_option linter.unusedVariables false
set_option linter.unusedSimpArgs false
namespace Go.Proofs.YtkabcgmegljebaaGreatDoor.D
open Go.RowKit Go.Proofs.YtkabcgmegljebaaGreatDoorW.PrintWords Go.Proofs.YtkabcgmegljebaaGreatDoorW.PrintLast Go.Proofs.YtkabcgmegljebaaGreatDoorW.PrintMore
open Go.Proofs.YtkabcgmegljebaaGreatDoor.Q Go.Proofs.YtkabcgmegljebaaGreatDoor.H
section
variable (l : List S37) (A : Option Addr) (c : Nat) (w : World)
theorem runs_long (hk : KT w) (hl : 60 < l.length) : Calls Tryz.prog 3 #[.slice A l.length c] w fun e w' => e = .returned (.bool true) ∧ Below w.heap.size w w' := by
 have HK := am hk
 have HB := am (Below.refl w.heap.size w)
 have t1 : decide ((l.length : Int) > 60) = true := decide_eq_true (by omega)
 clear hk hl
 go_enter Tryz.func3, Tryz.ntmps3
 go_wp2_with (go_at_call 9; go_loud ((with_reducible refine (xfH _ (HK.out.below HB.out)).mono ?_); rintro z w8 ⟨rfl, hb⟩; replace HB := am (xaC HB.out hb); clear hb))
 go_ret
 exact ⟨rfl, HB.out⟩
theorem runs_ok (hk : KT w) (hr : Kd.C k37 w A l.length l) (hbit : ∀ o ∈ l, o.f1 < 18446744073709551616 ∧ o.f2 < 18446744073709551616) (hl : l.length ≤ 60) : Calls Tryz.prog 3 #[.slice A l.length c] w fun e w' => e = .returned (.bool true) ∧ Below w.heap.size w w' := by
 have HB := am (Below.refl w.heap.size w)
 have hrun := run_ok (c := c) (w := w) (A := A) hk fixF hr (xjF l) (fun h => (xeZ h).1)
 have hll : (H.runT fixF ((chk l).1, (chk l).2.1) l).1.length ≤ 4096 := by
  unfold H.runT
  split
  ·
   rename_i he
   obtain ⟨hg, _⟩ := xeZ he
   have h := (xhQ (fxs := fixF) 8193 (st0 l) hg (inv0 l)).1.ok.len
   unfold stepM
   rw [show (st0 l).ended = false from rfl, if_neg (by decide), if_neg (by omega)]
   unfold xcD
   split
   ·
    split
    ·
     exact h
    ·
     exact Nat.zero_le _
   ·
    exact Nat.zero_le _
  ·
   exact Nat.zero_le _
 have hdo := fun w' (hb : Below w.heap.size w w') => ofD_c l A c w' (Kd.xaQ hr hb) (by omega)
 have hdr := fun (A : Option Addr) c w (base : Nat) hs hb => runD_c l A c w (base := base) hs hb hbit
 generalize H.runT fixF ((chk l).1, (chk l).2.1) l = res at hrun hll hdr
 obtain ⟨lw, fw⟩ := res
 simp only at hrun hll hdr
 have HK := am hk;have HRUN := am hrun;have HDO := am hdo;have HDR := am hdr;have HLL := am hll
 have t1 : decide ((l.length : Int) > 60) = false := decide_eq_false (by omega)
 have t2 : (fw == fw) = true := beq_self_eq_true _
 have HLE : xaA (l.length ≤ 60) := ⟨hl⟩
 clear hk hr hbit hl hrun hdo hdr hll
 go_enter Tryz.func3, Tryz.ntmps3
 go_upto_region 4 with (go_at_call 10; go_loud ((with_reducible refine (HRUN.out).mono ?_); rintro z w1 ⟨A1, c1, rfl, hs, hb⟩; have HS := am hs; clear hs; replace HB := am (xaC HB.out hb); clear hb))
 skip
 go_upto_region 5 with (first | (go_at_call 12; go_loud ((with_reducible refine (HDO.out _ HB.out).mono ?_); rintro z w2 ⟨A2, c2, rfl, hs, hb⟩; have HO := am hs.ownF; have HZ := am hb.size; replace HS := am (HS.out.below hb); clear hs; replace HB := am (xaC HB.out hb); clear hb)) | (go_at_call 11; go_loud ((with_reducible refine (HDR.out _ _ _ _ HO.out HZ.out).mono ?_); rintro z w3 ⟨A3, c3, rfl, hs, hb⟩; have HD := am hs; replace HS := am (HS.out.below hb); clear hs; replace HB := am (xaC HB.out hb); clear hb)))
 skip
 go_wp2_with (first | (go_at_call 13; go_loud ((with_reducible refine (same_c _ _ _ _ _ _ HS.out.C (by have h := HD.out.C; rwa [List.length_map] at h) HLL.out).mono ?_); rintro z w4 ⟨rfl, hb⟩; replace HB := am (xaC HB.out hb); clear hb)) | (go_at_call 9; go_loud ((with_reducible refine (xfH _ (HK.out.below HB.out)).mono ?_); rintro z w8 ⟨rfl, hb⟩; replace HB := am (xaC HB.out hb); clear hb)))
 skip
 go_ret
 exact ⟨rfl, HB.out⟩
theorem runs_all (hk : KT w) (hr : Kd.C k37 w A l.length l) (hbit : ∀ o ∈ l, o.f1 < 18446744073709551616 ∧ o.f2 < 18446744073709551616) : Calls Tryz.prog 3 #[.slice A l.length c] w fun e w' => e = .returned (.bool true) ∧ Below w.heap.size w w' := by
 by_cases hl : 60 < l.length
 ·
  exact runs_long l A c w hk hl
 ·
  exact runs_ok l A c w hk hr hbit (by omega)
end
end Go.Proofs.YtkabcgmegljebaaGreatDoor.D
