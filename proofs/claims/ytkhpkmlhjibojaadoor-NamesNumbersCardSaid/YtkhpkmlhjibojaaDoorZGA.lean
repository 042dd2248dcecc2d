/- Contracts and facts of functions of the program (calendar, dates and their documents), joined in one text by a program of this session. No condition but what each theorem states. -/
import Derived.Test.YtkhpkmlhjibojaaDoorProg
import Derived.Below
import Derived.Deep.Draws
import Derived.Deep.AppendLies
import Derived.Maps.AppendAt
import Derived.OwnWalk
import Derived.Laws.BytesArg
import Derived.Laws.MakeOwn
import Derived.Laws.OwnMore
import Derived.Deep.OwnRows
import Derived.Tactics
import Derived.Lib.ConvBytes
import Derived.Laws.Slices
import Derived.WalkKit
import Derived.KernelRfl
import Derived.RowKit3
import Derived.Deep.LoopGhost
import Derived.Deep.QuietTactic
import Derived.BigQuiet
import Derived.WideLaws
import Derived.Deep.DeepCutAuto
import Derived.Deep.CutBlock
import Derived.Deep.RegionHeld3
import Derived.Laws.Rows
import Derived.Lib.AppendStr
import Derived.ArgAppend
import Derived.Laws.IdiomCopy
import Derived.OrdersHeld
import Derived.Laws.BitsLemmas
import Derived.RowKit
import Derived.Test.YtkhpkmlhjibojaaDoorZW
import Derived.Shelf.Strconv.Itoa0
import Derived.Shelf.Strconv.Itoa1
import Derived.Shelf.LaysM
import Derived.Shelf.Strconv.Itoa2
import Derived.Shelf.Strconv.Itoa3
import Derived.Laws.Externs
import Derived.Lib.OthersKept
import Derived.Lib.AppendIntMem
import Derived.BigCall
import Derived.Test.YtkhpkmlhjibojaaDoorRows
import Derived.Lib.LaidTab
import Derived.Stop.LaidErr
set_option linter.unusedVariables false
set_option linter.unusedSimpArgs false
namespace Go.Proofs.YtkhpkmlhjibojaaDoor.Q
open Go.RowKit Go.Proofs.YtkhpkmlhjibojaaDoorW.PrintWords Go.Proofs.YtkhpkmlhjibojaaDoorW.PrintLast Go.Proofs.YtkhpkmlhjibojaaDoorW.PrintMore
attribute [local go_sem] max2_int min2_int max_two min_two max_three min_three max_four min_four   -- for this text's walks alone
def errW : Option Int → Value
  | none => .nilIface
  | some c => .iface 0 (.int .i64 c)
theorem errW_none : errW none = .nilIface := rfl
theorem errW_some (c : Int) : errW (some c) = .iface 0 (.int .i64 c) := rfl
theorem info25 : (Tryd.prog.info? 25).map (fun i => (i.zero, i.size, i.bytes)) = some (some (.agg #[(.int .i64 0), (.int .i64 0)]), 2, 16) := by kernel_rfl
-- the values' own types
structure S25 where
  f0 : Int
  f1 : Int
def z25 : S25 := ⟨(0 : Int), (0 : Int)⟩
def k25 : Kd S25 := Kd.iso (Kd.pair (Kd.int .i64) (Kd.int .i64)) (fun x : S25 => (x.f0, x.f1))
theorem k25_open {w : World} {x : S25} {cs : List Value} (h : k25.K w x cs) : cs = [.int .i64 x.f0, .int .i64 x.f1] := by
  obtain ⟨_, _, rfl, rfl, rfl⟩ := h
  exact rfl
theorem k25_openM {w : World} {base : Nat} {ok : Nat → Prop} {x : S25} {cs : List Value} (h : k25.M w base ok x cs) : cs = [.int .i64 x.f0, .int .i64 x.f1] := by
  obtain ⟨_, _, rfl, rfl, rfl⟩ := h
  exact rfl
theorem k25_mk (w : World) (x : S25)  : k25.K w x [.int .i64 x.f0, .int .i64 x.f1] := ⟨[.int .i64 x.f0], [.int .i64 x.f1], rfl, rfl, rfl⟩
theorem k25_mkM (w : World) (base : Nat) (ok : Nat → Prop) (x : S25)  : k25.M w base ok x [.int .i64 x.f0, .int .i64 x.f1] := ⟨[.int .i64 x.f0], [.int .i64 x.f1], rfl, rfl, rfl⟩
def rd_T25 (xs : List S25) (i : Int) : S25 := xs.getD i.toNat z25
theorem at_T25 {w : World} {A : Option Addr} {n : Nat} {xs : List S25} (h : Kd.C k25 w A n xs) (i : Int) (h0 : 0 ≤ i) (h1 : i < n) : ∃ ad , A = some ad ∧ w.cell? (ad.add (i.toNat * 2)) = some (.int .i64 (rd_T25 xs i).f0) ∧ w.cell? ⟨(ad.add (i.toNat * 2)).block, (ad.add (i.toNat * 2)).off + 1, none⟩ = some (.int .i64 (rd_T25 xs i).f1) := by
 obtain ⟨ad, c, e, _, hK, hc0⟩ := Kd.C_get h z25 i h0 h1
 have hc : ∀ j u, c[j]? = some u → w.cell? (ad.add (i.toNat * 2 + j)) = some u := hc0
 obtain rfl := k25_open hK
 exact ⟨ad, e, hc 0 _ rfl, by rw [← add_field _ _ 1 (by omega)]; exact hc 1 _ rfl⟩
end Go.Proofs.YtkhpkmlhjibojaaDoor.Q
namespace Go.Proofs.YtkhpkmlhjibojaaDoor.Q
open Go.RowKit Go.Proofs.YtkhpkmlhjibojaaDoorW.PrintWords Go.Proofs.YtkhpkmlhjibojaaDoorW.PrintLast Go.Proofs.YtkhpkmlhjibojaaDoorW.PrintMore
attribute [local go_sem] max2_int min2_int max_two min_two max_three min_three max_four min_four   -- for this text's walks alone
def tenorlaw0_errs.f  : Option ((List (S25))) := some (([(⟨0, 0⟩ : S25), (⟨1, 1⟩ : S25), (⟨2, 2⟩ : S25), (⟨20, 20⟩ : S25), (⟨50, 50⟩ : S25), (⟨51, 51⟩ : S25), (⟨60, 60⟩ : S25), (⟨70, 70⟩ : S25), (⟨80, 80⟩ : S25), (⟨81, 81⟩ : S25), (⟨90, 90⟩ : S25), (⟨91, 91⟩ : S25), (⟨100, 100⟩ : S25), (⟨120, 120⟩ : S25), (⟨130, 130⟩ : S25), (⟨131, 131⟩ : S25), (⟨140, 140⟩ : S25), (⟨170, 170⟩ : S25), (⟨171, 171⟩ : S25), (⟨172, 172⟩ : S25), (⟨180, 180⟩ : S25), (⟨190, 190⟩ : S25), (⟨200, 200⟩ : S25), (⟨201, 201⟩ : S25), (⟨202, 202⟩ : S25), (⟨210, 210⟩ : S25), (⟨230, 230⟩ : S25), (⟨231, 231⟩ : S25), (⟨240, 240⟩ : S25), (⟨260, 260⟩ : S25), (⟨261, 261⟩ : S25)] : List (S25)))
set_option maxHeartbeats 8000000 in
set_option maxRecDepth 100000 in
theorem tenorlaw0_errs.calls  (r : List (S25)) (w : World) (h : tenorlaw0_errs.f  = some r) :
  Calls Tryd.prog 4 #[] w fun e w' => ∃ v0_ : Value, e = .returned (v0_) ∧ Kd.R k25 25 w' w.heap.size (fun _ => True) v0_ r ∧ Below w.heap.size w w' := by
 have hu25 := Tryd.underlying25
 have HB := Aside0.mk (Below.refl w.heap.size w)
 have H : (some (([(⟨0, 0⟩ : S25), (⟨1, 1⟩ : S25), (⟨2, 2⟩ : S25), (⟨20, 20⟩ : S25), (⟨50, 50⟩ : S25), (⟨51, 51⟩ : S25), (⟨60, 60⟩ : S25), (⟨70, 70⟩ : S25), (⟨80, 80⟩ : S25), (⟨81, 81⟩ : S25), (⟨90, 90⟩ : S25), (⟨91, 91⟩ : S25), (⟨100, 100⟩ : S25), (⟨120, 120⟩ : S25), (⟨130, 130⟩ : S25), (⟨131, 131⟩ : S25), (⟨140, 140⟩ : S25), (⟨170, 170⟩ : S25), (⟨171, 171⟩ : S25), (⟨172, 172⟩ : S25), (⟨180, 180⟩ : S25), (⟨190, 190⟩ : S25), (⟨200, 200⟩ : S25), (⟨201, 201⟩ : S25), (⟨202, 202⟩ : S25), (⟨210, 210⟩ : S25), (⟨230, 230⟩ : S25), (⟨231, 231⟩ : S25), (⟨240, 240⟩ : S25), (⟨260, 260⟩ : S25), (⟨261, 261⟩ : S25)] : List (S25)))) = some r := h
 clear h
 obtain ⟨y101, hy101⟩ : ∃ y_ : List (S25), y_ = (([(⟨0, 0⟩ : S25), (⟨1, 1⟩ : S25), (⟨2, 2⟩ : S25), (⟨20, 20⟩ : S25), (⟨50, 50⟩ : S25), (⟨51, 51⟩ : S25), (⟨60, 60⟩ : S25), (⟨70, 70⟩ : S25), (⟨80, 80⟩ : S25), (⟨81, 81⟩ : S25), (⟨90, 90⟩ : S25), (⟨91, 91⟩ : S25), (⟨100, 100⟩ : S25), (⟨120, 120⟩ : S25), (⟨130, 130⟩ : S25), (⟨131, 131⟩ : S25), (⟨140, 140⟩ : S25), (⟨170, 170⟩ : S25), (⟨171, 171⟩ : S25), (⟨172, 172⟩ : S25), (⟨180, 180⟩ : S25), (⟨190, 190⟩ : S25), (⟨200, 200⟩ : S25), (⟨201, 201⟩ : S25), (⟨202, 202⟩ : S25), (⟨210, 210⟩ : S25), (⟨230, 230⟩ : S25), (⟨231, 231⟩ : S25), (⟨240, 240⟩ : S25), (⟨260, 260⟩ : S25), (⟨261, 261⟩ : S25)] : List (S25))) := ⟨_, rfl⟩
 replace H : (some y101) = some r := by first | (rw [hy101]; with_reducible exact H) | (have H2_ := (Option.bind_some _ _).symm.trans H; rw [hy101]; with_reducible exact H2_) | (have H2_ := (Option.bind_some _ _).symm.trans H; with_reducible exact H2_) | with_reducible exact H | (rw [hy101]; exact H) | exact H
 have Ny101 := Aside0.mk hy101;clear hy101
 obtain rfl := Option.some.inj H
 go_enter Tryd.func4, Tryd.ntmps4
 go_wp2_with (first | ((with_reducible refine gate_dst (N := 32) rfl ?_); refine Kd.R_lit k25 _ 25 ?hg (N := 32) ?hd (xs := ([(⟨0, 0⟩ : S25), (⟨1, 1⟩ : S25), (⟨2, 2⟩ : S25), (⟨20, 20⟩ : S25), (⟨50, 50⟩ : S25), (⟨51, 51⟩ : S25), (⟨60, 60⟩ : S25), (⟨70, 70⟩ : S25), (⟨80, 80⟩ : S25), (⟨81, 81⟩ : S25), (⟨90, 90⟩ : S25), (⟨91, 91⟩ : S25), (⟨100, 100⟩ : S25), (⟨120, 120⟩ : S25), (⟨130, 130⟩ : S25), (⟨131, 131⟩ : S25), (⟨140, 140⟩ : S25), (⟨170, 170⟩ : S25), (⟨171, 171⟩ : S25), (⟨172, 172⟩ : S25), (⟨180, 180⟩ : S25), (⟨190, 190⟩ : S25), (⟨200, 200⟩ : S25), (⟨201, 201⟩ : S25), (⟨202, 202⟩ : S25), (⟨210, 210⟩ : S25), (⟨230, 230⟩ : S25), (⟨231, 231⟩ : S25), (⟨240, 240⟩ : S25), (⟨260, 260⟩ : S25), (⟨261, 261⟩ : S25)] : List (S25))) (inner := [.int .i64 0, .int .i64 0, .int .i64 1, .int .i64 1, .int .i64 2, .int .i64 2, .int .i64 20, .int .i64 20, .int .i64 50, .int .i64 50, .int .i64 51, .int .i64 51, .int .i64 60, .int .i64 60, .int .i64 70, .int .i64 70, .int .i64 80, .int .i64 80, .int .i64 81, .int .i64 81, .int .i64 90, .int .i64 90, .int .i64 91, .int .i64 91, .int .i64 100, .int .i64 100, .int .i64 120, .int .i64 120, .int .i64 130, .int .i64 130, .int .i64 131, .int .i64 131, .int .i64 140, .int .i64 140, .int .i64 170, .int .i64 170, .int .i64 171, .int .i64 171, .int .i64 172, .int .i64 172, .int .i64 180, .int .i64 180, .int .i64 190, .int .i64 190, .int .i64 200, .int .i64 200, .int .i64 201, .int .i64 201, .int .i64 202, .int .i64 202, .int .i64 210, .int .i64 210, .int .i64 230, .int .i64 230, .int .i64 231, .int .i64 231, .int .i64 240, .int .i64 240, .int .i64 260, .int .i64 260, .int .i64 261, .int .i64 261]) (ok := fun _ => True) (okp := fun _ => True) ?hr ?hp (fun _ hk => hk) trivial (Below.refl _ _) (Nat.le_refl _) (by simp) ?_; (case hd => rfl); (case hg => rfl); (case hr => first | (go_simp; done) | (go_simp; rfl)); (case hp => exact (Reps.c2 (show Kd.M k25 _ _ _ (⟨0, 0⟩ : S25) [.int .i64 0, .int .i64 0] from (k25_mkM _ _ _ (⟨0, 0⟩ : S25) )) (Reps.c2 (show Kd.M k25 _ _ _ (⟨1, 1⟩ : S25) [.int .i64 1, .int .i64 1] from (k25_mkM _ _ _ (⟨1, 1⟩ : S25) )) (Reps.c2 (show Kd.M k25 _ _ _ (⟨2, 2⟩ : S25) [.int .i64 2, .int .i64 2] from (k25_mkM _ _ _ (⟨2, 2⟩ : S25) )) (Reps.c2 (show Kd.M k25 _ _ _ (⟨20, 20⟩ : S25) [.int .i64 20, .int .i64 20] from (k25_mkM _ _ _ (⟨20, 20⟩ : S25) )) (Reps.c2 (show Kd.M k25 _ _ _ (⟨50, 50⟩ : S25) [.int .i64 50, .int .i64 50] from (k25_mkM _ _ _ (⟨50, 50⟩ : S25) )) (Reps.c2 (show Kd.M k25 _ _ _ (⟨51, 51⟩ : S25) [.int .i64 51, .int .i64 51] from (k25_mkM _ _ _ (⟨51, 51⟩ : S25) )) (Reps.c2 (show Kd.M k25 _ _ _ (⟨60, 60⟩ : S25) [.int .i64 60, .int .i64 60] from (k25_mkM _ _ _ (⟨60, 60⟩ : S25) )) (Reps.c2 (show Kd.M k25 _ _ _ (⟨70, 70⟩ : S25) [.int .i64 70, .int .i64 70] from (k25_mkM _ _ _ (⟨70, 70⟩ : S25) )) (Reps.c2 (show Kd.M k25 _ _ _ (⟨80, 80⟩ : S25) [.int .i64 80, .int .i64 80] from (k25_mkM _ _ _ (⟨80, 80⟩ : S25) )) (Reps.c2 (show Kd.M k25 _ _ _ (⟨81, 81⟩ : S25) [.int .i64 81, .int .i64 81] from (k25_mkM _ _ _ (⟨81, 81⟩ : S25) )) (Reps.c2 (show Kd.M k25 _ _ _ (⟨90, 90⟩ : S25) [.int .i64 90, .int .i64 90] from (k25_mkM _ _ _ (⟨90, 90⟩ : S25) )) (Reps.c2 (show Kd.M k25 _ _ _ (⟨91, 91⟩ : S25) [.int .i64 91, .int .i64 91] from (k25_mkM _ _ _ (⟨91, 91⟩ : S25) )) (Reps.c2 (show Kd.M k25 _ _ _ (⟨100, 100⟩ : S25) [.int .i64 100, .int .i64 100] from (k25_mkM _ _ _ (⟨100, 100⟩ : S25) )) (Reps.c2 (show Kd.M k25 _ _ _ (⟨120, 120⟩ : S25) [.int .i64 120, .int .i64 120] from (k25_mkM _ _ _ (⟨120, 120⟩ : S25) )) (Reps.c2 (show Kd.M k25 _ _ _ (⟨130, 130⟩ : S25) [.int .i64 130, .int .i64 130] from (k25_mkM _ _ _ (⟨130, 130⟩ : S25) )) (Reps.c2 (show Kd.M k25 _ _ _ (⟨131, 131⟩ : S25) [.int .i64 131, .int .i64 131] from (k25_mkM _ _ _ (⟨131, 131⟩ : S25) )) (Reps.c2 (show Kd.M k25 _ _ _ (⟨140, 140⟩ : S25) [.int .i64 140, .int .i64 140] from (k25_mkM _ _ _ (⟨140, 140⟩ : S25) )) (Reps.c2 (show Kd.M k25 _ _ _ (⟨170, 170⟩ : S25) [.int .i64 170, .int .i64 170] from (k25_mkM _ _ _ (⟨170, 170⟩ : S25) )) (Reps.c2 (show Kd.M k25 _ _ _ (⟨171, 171⟩ : S25) [.int .i64 171, .int .i64 171] from (k25_mkM _ _ _ (⟨171, 171⟩ : S25) )) (Reps.c2 (show Kd.M k25 _ _ _ (⟨172, 172⟩ : S25) [.int .i64 172, .int .i64 172] from (k25_mkM _ _ _ (⟨172, 172⟩ : S25) )) (Reps.c2 (show Kd.M k25 _ _ _ (⟨180, 180⟩ : S25) [.int .i64 180, .int .i64 180] from (k25_mkM _ _ _ (⟨180, 180⟩ : S25) )) (Reps.c2 (show Kd.M k25 _ _ _ (⟨190, 190⟩ : S25) [.int .i64 190, .int .i64 190] from (k25_mkM _ _ _ (⟨190, 190⟩ : S25) )) (Reps.c2 (show Kd.M k25 _ _ _ (⟨200, 200⟩ : S25) [.int .i64 200, .int .i64 200] from (k25_mkM _ _ _ (⟨200, 200⟩ : S25) )) (Reps.c2 (show Kd.M k25 _ _ _ (⟨201, 201⟩ : S25) [.int .i64 201, .int .i64 201] from (k25_mkM _ _ _ (⟨201, 201⟩ : S25) )) (Reps.c2 (show Kd.M k25 _ _ _ (⟨202, 202⟩ : S25) [.int .i64 202, .int .i64 202] from (k25_mkM _ _ _ (⟨202, 202⟩ : S25) )) (Reps.c2 (show Kd.M k25 _ _ _ (⟨210, 210⟩ : S25) [.int .i64 210, .int .i64 210] from (k25_mkM _ _ _ (⟨210, 210⟩ : S25) )) (Reps.c2 (show Kd.M k25 _ _ _ (⟨230, 230⟩ : S25) [.int .i64 230, .int .i64 230] from (k25_mkM _ _ _ (⟨230, 230⟩ : S25) )) (Reps.c2 (show Kd.M k25 _ _ _ (⟨231, 231⟩ : S25) [.int .i64 231, .int .i64 231] from (k25_mkM _ _ _ (⟨231, 231⟩ : S25) )) (Reps.c2 (show Kd.M k25 _ _ _ (⟨240, 240⟩ : S25) [.int .i64 240, .int .i64 240] from (k25_mkM _ _ _ (⟨240, 240⟩ : S25) )) (Reps.c2 (show Kd.M k25 _ _ _ (⟨260, 260⟩ : S25) [.int .i64 260, .int .i64 260] from (k25_mkM _ _ _ (⟨260, 260⟩ : S25) )) (Reps.c2 (show Kd.M k25 _ _ _ (⟨261, 261⟩ : S25) [.int .i64 261, .int .i64 261] from (k25_mkM _ _ _ (⟨261, 261⟩ : S25) )) (Reps.none _ _))))))))))))))))))))))))))))))))); intro v102 w1 ho2 hb hg_ hnew_; clear hg_ hnew_; (first | rw [← Ny101.out] at ho2 | (simp only [Int.reduceToNat] at ho2; rw [← Ny101.out] at ho2)); have n0_ := Aside0.mk (Kd.R_lower ho2 (below_size (by repeat (first | (with_reducible first | exact HB.out | apply below_alloc | apply pw_below_drewN | apply below_drew1) | exact HB.out)))); have n1_ := Aside0.mk (below_step (by repeat (first | (with_reducible first | exact HB.out | apply below_alloc | apply pw_below_drewN | apply below_drew1) | exact HB.out)) hb); clear HB; have HO103 := n0_; have HB := n1_; clear n0_ n1_; clear hb ho2))
 go_ret
 exact ⟨_, by first | rfl | (simp [errW_none, errW_some] <;> rfl) | (simp [*, errW_none, errW_some] <;> rfl), by (with_reducible repeat (first | apply Kd.R_alloc | apply Kd.R_drewN | apply Kd.R_drew)); exact HO103.out, by repeat (first | (with_reducible first | exact HB.out | apply below_alloc | apply pw_below_drewN | apply below_drew1) | exact HB.out)⟩
def tenorlaw0_limits.f  : Option ((List (S25))) := some (([(⟨109572, 109572⟩ : S25), (⟨1900, 1900⟩ : S25), (⟨2199, 2199⟩ : S25), (⟨64, 64⟩ : S25), (⟨1200, 1200⟩ : S25), (⟨1200, 1200⟩ : S25), (⟨30, 30⟩ : S25), (⟨256, 256⟩ : S25), (⟨64, 64⟩ : S25), (⟨4096, 4096⟩ : S25), (⟨65536, 65536⟩ : S25), (⟨64, 64⟩ : S25), (⟨1024, 1024⟩ : S25), (⟨8192, 8192⟩ : S25), (⟨256, 256⟩ : S25), (⟨8, 8⟩ : S25), (⟨400, 400⟩ : S25), (⟨30, 30⟩ : S25), (⟨1048576, 1048576⟩ : S25), (⟨1000000, 1000000⟩ : S25), (⟨70000, 70000⟩ : S25), (⟨28, 28⟩ : S25), (⟨256, 256⟩ : S25), (⟨256, 256⟩ : S25), (⟨1000000, 1000000⟩ : S25), (⟨16777216, 16777216⟩ : S25)] : List (S25)))
set_option maxHeartbeats 8000000 in
set_option maxRecDepth 100000 in
theorem tenorlaw0_limits.calls  (r : List (S25)) (w : World) (h : tenorlaw0_limits.f  = some r) :
  Calls Tryd.prog 5 #[] w fun e w' => ∃ v0_ : Value, e = .returned (v0_) ∧ Kd.R k25 25 w' w.heap.size (fun _ => True) v0_ r ∧ Below w.heap.size w w' := by
 have hu25 := Tryd.underlying25
 have HB := Aside0.mk (Below.refl w.heap.size w)
 have H : (some (([(⟨109572, 109572⟩ : S25), (⟨1900, 1900⟩ : S25), (⟨2199, 2199⟩ : S25), (⟨64, 64⟩ : S25), (⟨1200, 1200⟩ : S25), (⟨1200, 1200⟩ : S25), (⟨30, 30⟩ : S25), (⟨256, 256⟩ : S25), (⟨64, 64⟩ : S25), (⟨4096, 4096⟩ : S25), (⟨65536, 65536⟩ : S25), (⟨64, 64⟩ : S25), (⟨1024, 1024⟩ : S25), (⟨8192, 8192⟩ : S25), (⟨256, 256⟩ : S25), (⟨8, 8⟩ : S25), (⟨400, 400⟩ : S25), (⟨30, 30⟩ : S25), (⟨1048576, 1048576⟩ : S25), (⟨1000000, 1000000⟩ : S25), (⟨70000, 70000⟩ : S25), (⟨28, 28⟩ : S25), (⟨256, 256⟩ : S25), (⟨256, 256⟩ : S25), (⟨1000000, 1000000⟩ : S25), (⟨16777216, 16777216⟩ : S25)] : List (S25)))) = some r := h
 clear h
 obtain ⟨y104, hy104⟩ : ∃ y_ : List (S25), y_ = (([(⟨109572, 109572⟩ : S25), (⟨1900, 1900⟩ : S25), (⟨2199, 2199⟩ : S25), (⟨64, 64⟩ : S25), (⟨1200, 1200⟩ : S25), (⟨1200, 1200⟩ : S25), (⟨30, 30⟩ : S25), (⟨256, 256⟩ : S25), (⟨64, 64⟩ : S25), (⟨4096, 4096⟩ : S25), (⟨65536, 65536⟩ : S25), (⟨64, 64⟩ : S25), (⟨1024, 1024⟩ : S25), (⟨8192, 8192⟩ : S25), (⟨256, 256⟩ : S25), (⟨8, 8⟩ : S25), (⟨400, 400⟩ : S25), (⟨30, 30⟩ : S25), (⟨1048576, 1048576⟩ : S25), (⟨1000000, 1000000⟩ : S25), (⟨70000, 70000⟩ : S25), (⟨28, 28⟩ : S25), (⟨256, 256⟩ : S25), (⟨256, 256⟩ : S25), (⟨1000000, 1000000⟩ : S25), (⟨16777216, 16777216⟩ : S25)] : List (S25))) := ⟨_, rfl⟩
 replace H : (some y104) = some r := by first | (rw [hy104]; with_reducible exact H) | (have H2_ := (Option.bind_some _ _).symm.trans H; rw [hy104]; with_reducible exact H2_) | (have H2_ := (Option.bind_some _ _).symm.trans H; with_reducible exact H2_) | with_reducible exact H | (rw [hy104]; exact H) | exact H
 have Ny104 := Aside0.mk hy104;clear hy104
 obtain rfl := Option.some.inj H
 go_enter Tryd.func5, Tryd.ntmps5
 go_wp2_with (first | ((with_reducible refine gate_dst (N := 27) rfl ?_); refine Kd.R_lit k25 _ 25 ?hg (N := 27) ?hd (xs := ([(⟨109572, 109572⟩ : S25), (⟨1900, 1900⟩ : S25), (⟨2199, 2199⟩ : S25), (⟨64, 64⟩ : S25), (⟨1200, 1200⟩ : S25), (⟨1200, 1200⟩ : S25), (⟨30, 30⟩ : S25), (⟨256, 256⟩ : S25), (⟨64, 64⟩ : S25), (⟨4096, 4096⟩ : S25), (⟨65536, 65536⟩ : S25), (⟨64, 64⟩ : S25), (⟨1024, 1024⟩ : S25), (⟨8192, 8192⟩ : S25), (⟨256, 256⟩ : S25), (⟨8, 8⟩ : S25), (⟨400, 400⟩ : S25), (⟨30, 30⟩ : S25), (⟨1048576, 1048576⟩ : S25), (⟨1000000, 1000000⟩ : S25), (⟨70000, 70000⟩ : S25), (⟨28, 28⟩ : S25), (⟨256, 256⟩ : S25), (⟨256, 256⟩ : S25), (⟨1000000, 1000000⟩ : S25), (⟨16777216, 16777216⟩ : S25)] : List (S25))) (inner := [.int .i64 109572, .int .i64 109572, .int .i64 1900, .int .i64 1900, .int .i64 2199, .int .i64 2199, .int .i64 64, .int .i64 64, .int .i64 1200, .int .i64 1200, .int .i64 1200, .int .i64 1200, .int .i64 30, .int .i64 30, .int .i64 256, .int .i64 256, .int .i64 64, .int .i64 64, .int .i64 4096, .int .i64 4096, .int .i64 65536, .int .i64 65536, .int .i64 64, .int .i64 64, .int .i64 1024, .int .i64 1024, .int .i64 8192, .int .i64 8192, .int .i64 256, .int .i64 256, .int .i64 8, .int .i64 8, .int .i64 400, .int .i64 400, .int .i64 30, .int .i64 30, .int .i64 1048576, .int .i64 1048576, .int .i64 1000000, .int .i64 1000000, .int .i64 70000, .int .i64 70000, .int .i64 28, .int .i64 28, .int .i64 256, .int .i64 256, .int .i64 256, .int .i64 256, .int .i64 1000000, .int .i64 1000000, .int .i64 16777216, .int .i64 16777216]) (ok := fun _ => True) (okp := fun _ => True) ?hr ?hp (fun _ hk => hk) trivial (Below.refl _ _) (Nat.le_refl _) (by simp) ?_; (case hd => rfl); (case hg => rfl); (case hr => first | (go_simp; done) | (go_simp; rfl)); (case hp => exact (Reps.c2 (show Kd.M k25 _ _ _ (⟨109572, 109572⟩ : S25) [.int .i64 109572, .int .i64 109572] from (k25_mkM _ _ _ (⟨109572, 109572⟩ : S25) )) (Reps.c2 (show Kd.M k25 _ _ _ (⟨1900, 1900⟩ : S25) [.int .i64 1900, .int .i64 1900] from (k25_mkM _ _ _ (⟨1900, 1900⟩ : S25) )) (Reps.c2 (show Kd.M k25 _ _ _ (⟨2199, 2199⟩ : S25) [.int .i64 2199, .int .i64 2199] from (k25_mkM _ _ _ (⟨2199, 2199⟩ : S25) )) (Reps.c2 (show Kd.M k25 _ _ _ (⟨64, 64⟩ : S25) [.int .i64 64, .int .i64 64] from (k25_mkM _ _ _ (⟨64, 64⟩ : S25) )) (Reps.c2 (show Kd.M k25 _ _ _ (⟨1200, 1200⟩ : S25) [.int .i64 1200, .int .i64 1200] from (k25_mkM _ _ _ (⟨1200, 1200⟩ : S25) )) (Reps.c2 (show Kd.M k25 _ _ _ (⟨1200, 1200⟩ : S25) [.int .i64 1200, .int .i64 1200] from (k25_mkM _ _ _ (⟨1200, 1200⟩ : S25) )) (Reps.c2 (show Kd.M k25 _ _ _ (⟨30, 30⟩ : S25) [.int .i64 30, .int .i64 30] from (k25_mkM _ _ _ (⟨30, 30⟩ : S25) )) (Reps.c2 (show Kd.M k25 _ _ _ (⟨256, 256⟩ : S25) [.int .i64 256, .int .i64 256] from (k25_mkM _ _ _ (⟨256, 256⟩ : S25) )) (Reps.c2 (show Kd.M k25 _ _ _ (⟨64, 64⟩ : S25) [.int .i64 64, .int .i64 64] from (k25_mkM _ _ _ (⟨64, 64⟩ : S25) )) (Reps.c2 (show Kd.M k25 _ _ _ (⟨4096, 4096⟩ : S25) [.int .i64 4096, .int .i64 4096] from (k25_mkM _ _ _ (⟨4096, 4096⟩ : S25) )) (Reps.c2 (show Kd.M k25 _ _ _ (⟨65536, 65536⟩ : S25) [.int .i64 65536, .int .i64 65536] from (k25_mkM _ _ _ (⟨65536, 65536⟩ : S25) )) (Reps.c2 (show Kd.M k25 _ _ _ (⟨64, 64⟩ : S25) [.int .i64 64, .int .i64 64] from (k25_mkM _ _ _ (⟨64, 64⟩ : S25) )) (Reps.c2 (show Kd.M k25 _ _ _ (⟨1024, 1024⟩ : S25) [.int .i64 1024, .int .i64 1024] from (k25_mkM _ _ _ (⟨1024, 1024⟩ : S25) )) (Reps.c2 (show Kd.M k25 _ _ _ (⟨8192, 8192⟩ : S25) [.int .i64 8192, .int .i64 8192] from (k25_mkM _ _ _ (⟨8192, 8192⟩ : S25) )) (Reps.c2 (show Kd.M k25 _ _ _ (⟨256, 256⟩ : S25) [.int .i64 256, .int .i64 256] from (k25_mkM _ _ _ (⟨256, 256⟩ : S25) )) (Reps.c2 (show Kd.M k25 _ _ _ (⟨8, 8⟩ : S25) [.int .i64 8, .int .i64 8] from (k25_mkM _ _ _ (⟨8, 8⟩ : S25) )) (Reps.c2 (show Kd.M k25 _ _ _ (⟨400, 400⟩ : S25) [.int .i64 400, .int .i64 400] from (k25_mkM _ _ _ (⟨400, 400⟩ : S25) )) (Reps.c2 (show Kd.M k25 _ _ _ (⟨30, 30⟩ : S25) [.int .i64 30, .int .i64 30] from (k25_mkM _ _ _ (⟨30, 30⟩ : S25) )) (Reps.c2 (show Kd.M k25 _ _ _ (⟨1048576, 1048576⟩ : S25) [.int .i64 1048576, .int .i64 1048576] from (k25_mkM _ _ _ (⟨1048576, 1048576⟩ : S25) )) (Reps.c2 (show Kd.M k25 _ _ _ (⟨1000000, 1000000⟩ : S25) [.int .i64 1000000, .int .i64 1000000] from (k25_mkM _ _ _ (⟨1000000, 1000000⟩ : S25) )) (Reps.c2 (show Kd.M k25 _ _ _ (⟨70000, 70000⟩ : S25) [.int .i64 70000, .int .i64 70000] from (k25_mkM _ _ _ (⟨70000, 70000⟩ : S25) )) (Reps.c2 (show Kd.M k25 _ _ _ (⟨28, 28⟩ : S25) [.int .i64 28, .int .i64 28] from (k25_mkM _ _ _ (⟨28, 28⟩ : S25) )) (Reps.c2 (show Kd.M k25 _ _ _ (⟨256, 256⟩ : S25) [.int .i64 256, .int .i64 256] from (k25_mkM _ _ _ (⟨256, 256⟩ : S25) )) (Reps.c2 (show Kd.M k25 _ _ _ (⟨256, 256⟩ : S25) [.int .i64 256, .int .i64 256] from (k25_mkM _ _ _ (⟨256, 256⟩ : S25) )) (Reps.c2 (show Kd.M k25 _ _ _ (⟨1000000, 1000000⟩ : S25) [.int .i64 1000000, .int .i64 1000000] from (k25_mkM _ _ _ (⟨1000000, 1000000⟩ : S25) )) (Reps.c2 (show Kd.M k25 _ _ _ (⟨16777216, 16777216⟩ : S25) [.int .i64 16777216, .int .i64 16777216] from (k25_mkM _ _ _ (⟨16777216, 16777216⟩ : S25) )) (Reps.none _ _)))))))))))))))))))))))))))); intro v105 w1 ho2 hb hg_ hnew_; clear hg_ hnew_; (first | rw [← Ny104.out] at ho2 | (simp only [Int.reduceToNat] at ho2; rw [← Ny104.out] at ho2)); have n0_ := Aside0.mk (Kd.R_lower ho2 (below_size (by repeat (first | (with_reducible first | exact HB.out | apply below_alloc | apply pw_below_drewN | apply below_drew1) | exact HB.out)))); have n1_ := Aside0.mk (below_step (by repeat (first | (with_reducible first | exact HB.out | apply below_alloc | apply pw_below_drewN | apply below_drew1) | exact HB.out)) hb); clear HB; have HO106 := n0_; have HB := n1_; clear n0_ n1_; clear hb ho2))
 go_ret
 exact ⟨_, by first | rfl | (simp [errW_none, errW_some] <;> rfl) | (simp [*, errW_none, errW_some] <;> rfl), by (with_reducible repeat (first | apply Kd.R_alloc | apply Kd.R_drewN | apply Kd.R_drew)); exact HO106.out, by repeat (first | (with_reducible first | exact HB.out | apply below_alloc | apply pw_below_drewN | apply below_drew1) | exact HB.out)⟩
end Go.Proofs.YtkhpkmlhjibojaaDoor.Q
namespace Go.Proofs.YtkhpkmlhjibojaaDoor.Q
open Go.RowKit Go.Proofs.YtkhpkmlhjibojaaDoorW.PrintWords Go.Proofs.YtkhpkmlhjibojaaDoorW.PrintLast Go.Proofs.YtkhpkmlhjibojaaDoorW.PrintMore
attribute [local go_sem] max2_int min2_int max_two min_two max_three min_three max_four min_four   -- for this text's walks alone
def tenorlaw0_kinds.f  : Option ((List (S25))) := some (([(⟨1, 1⟩ : S25), (⟨2, 2⟩ : S25), (⟨3, 3⟩ : S25), (⟨4, 4⟩ : S25), (⟨5, 5⟩ : S25), (⟨1, 1⟩ : S25), (⟨2, 2⟩ : S25), (⟨3, 3⟩ : S25), (⟨4, 4⟩ : S25), (⟨0, 0⟩ : S25), (⟨1, 1⟩ : S25), (⟨2, 2⟩ : S25), (⟨3, 3⟩ : S25), (⟨4, 4⟩ : S25), (⟨1, 1⟩ : S25), (⟨2, 2⟩ : S25), (⟨3, 3⟩ : S25), (⟨4, 4⟩ : S25), (⟨5, 5⟩ : S25), (⟨6, 6⟩ : S25), (⟨1, 1⟩ : S25), (⟨2, 2⟩ : S25), (⟨3, 3⟩ : S25), (⟨4, 4⟩ : S25), (⟨1, 1⟩ : S25), (⟨2, 2⟩ : S25), (⟨3, 3⟩ : S25), (⟨4, 4⟩ : S25), (⟨0, 0⟩ : S25), (⟨1, 1⟩ : S25), (⟨2, 2⟩ : S25), (⟨1, 1⟩ : S25), (⟨2, 2⟩ : S25), (⟨3, 3⟩ : S25), (⟨4, 4⟩ : S25), (⟨5, 5⟩ : S25), (⟨6, 6⟩ : S25), (⟨1, 1⟩ : S25), (⟨2, 2⟩ : S25), (⟨3, 3⟩ : S25), (⟨4, 4⟩ : S25), (⟨1, 1⟩ : S25), (⟨2, 2⟩ : S25), (⟨1, 1⟩ : S25), (⟨2, 2⟩ : S25), (⟨1, 1⟩ : S25), (⟨2, 2⟩ : S25), (⟨3, 3⟩ : S25), (⟨4, 4⟩ : S25), (⟨5, 5⟩ : S25), (⟨6, 6⟩ : S25), (⟨7, 7⟩ : S25), (⟨8, 8⟩ : S25), (⟨1, 1⟩ : S25), (⟨2, 2⟩ : S25), (⟨3, 3⟩ : S25), (⟨1, 1⟩ : S25), (⟨2, 2⟩ : S25), (⟨3, 3⟩ : S25), (⟨4, 4⟩ : S25), (⟨5, 5⟩ : S25), (⟨6, 6⟩ : S25), (⟨7, 7⟩ : S25)] : List (S25)))
set_option maxHeartbeats 80000000 in
set_option maxRecDepth 1000000 in
theorem tenorlaw0_kinds.calls  (r : List (S25)) (w : World) (h : tenorlaw0_kinds.f  = some r) :
  Calls Tryd.prog 6 #[] w fun e w' => ∃ v0_ : Value, e = .returned (v0_) ∧ Kd.R k25 25 w' w.heap.size (fun _ => True) v0_ r ∧ Below w.heap.size w w' := by
 have hu25 := Tryd.underlying25
 have HB := Aside0.mk (Below.refl w.heap.size w)
 have H : (some (([(⟨1, 1⟩ : S25), (⟨2, 2⟩ : S25), (⟨3, 3⟩ : S25), (⟨4, 4⟩ : S25), (⟨5, 5⟩ : S25), (⟨1, 1⟩ : S25), (⟨2, 2⟩ : S25), (⟨3, 3⟩ : S25), (⟨4, 4⟩ : S25), (⟨0, 0⟩ : S25), (⟨1, 1⟩ : S25), (⟨2, 2⟩ : S25), (⟨3, 3⟩ : S25), (⟨4, 4⟩ : S25), (⟨1, 1⟩ : S25), (⟨2, 2⟩ : S25), (⟨3, 3⟩ : S25), (⟨4, 4⟩ : S25), (⟨5, 5⟩ : S25), (⟨6, 6⟩ : S25), (⟨1, 1⟩ : S25), (⟨2, 2⟩ : S25), (⟨3, 3⟩ : S25), (⟨4, 4⟩ : S25), (⟨1, 1⟩ : S25), (⟨2, 2⟩ : S25), (⟨3, 3⟩ : S25), (⟨4, 4⟩ : S25), (⟨0, 0⟩ : S25), (⟨1, 1⟩ : S25), (⟨2, 2⟩ : S25), (⟨1, 1⟩ : S25), (⟨2, 2⟩ : S25), (⟨3, 3⟩ : S25), (⟨4, 4⟩ : S25), (⟨5, 5⟩ : S25), (⟨6, 6⟩ : S25), (⟨1, 1⟩ : S25), (⟨2, 2⟩ : S25), (⟨3, 3⟩ : S25), (⟨4, 4⟩ : S25), (⟨1, 1⟩ : S25), (⟨2, 2⟩ : S25), (⟨1, 1⟩ : S25), (⟨2, 2⟩ : S25), (⟨1, 1⟩ : S25), (⟨2, 2⟩ : S25), (⟨3, 3⟩ : S25), (⟨4, 4⟩ : S25), (⟨5, 5⟩ : S25), (⟨6, 6⟩ : S25), (⟨7, 7⟩ : S25), (⟨8, 8⟩ : S25), (⟨1, 1⟩ : S25), (⟨2, 2⟩ : S25), (⟨3, 3⟩ : S25), (⟨1, 1⟩ : S25), (⟨2, 2⟩ : S25), (⟨3, 3⟩ : S25), (⟨4, 4⟩ : S25), (⟨5, 5⟩ : S25), (⟨6, 6⟩ : S25), (⟨7, 7⟩ : S25)] : List (S25)))) = some r := h
 clear h
 obtain ⟨y107, hy107⟩ : ∃ y_ : List (S25), y_ = (([(⟨1, 1⟩ : S25), (⟨2, 2⟩ : S25), (⟨3, 3⟩ : S25), (⟨4, 4⟩ : S25), (⟨5, 5⟩ : S25), (⟨1, 1⟩ : S25), (⟨2, 2⟩ : S25), (⟨3, 3⟩ : S25), (⟨4, 4⟩ : S25), (⟨0, 0⟩ : S25), (⟨1, 1⟩ : S25), (⟨2, 2⟩ : S25), (⟨3, 3⟩ : S25), (⟨4, 4⟩ : S25), (⟨1, 1⟩ : S25), (⟨2, 2⟩ : S25), (⟨3, 3⟩ : S25), (⟨4, 4⟩ : S25), (⟨5, 5⟩ : S25), (⟨6, 6⟩ : S25), (⟨1, 1⟩ : S25), (⟨2, 2⟩ : S25), (⟨3, 3⟩ : S25), (⟨4, 4⟩ : S25), (⟨1, 1⟩ : S25), (⟨2, 2⟩ : S25), (⟨3, 3⟩ : S25), (⟨4, 4⟩ : S25), (⟨0, 0⟩ : S25), (⟨1, 1⟩ : S25), (⟨2, 2⟩ : S25), (⟨1, 1⟩ : S25), (⟨2, 2⟩ : S25), (⟨3, 3⟩ : S25), (⟨4, 4⟩ : S25), (⟨5, 5⟩ : S25), (⟨6, 6⟩ : S25), (⟨1, 1⟩ : S25), (⟨2, 2⟩ : S25), (⟨3, 3⟩ : S25), (⟨4, 4⟩ : S25), (⟨1, 1⟩ : S25), (⟨2, 2⟩ : S25), (⟨1, 1⟩ : S25), (⟨2, 2⟩ : S25), (⟨1, 1⟩ : S25), (⟨2, 2⟩ : S25), (⟨3, 3⟩ : S25), (⟨4, 4⟩ : S25), (⟨5, 5⟩ : S25), (⟨6, 6⟩ : S25), (⟨7, 7⟩ : S25), (⟨8, 8⟩ : S25), (⟨1, 1⟩ : S25), (⟨2, 2⟩ : S25), (⟨3, 3⟩ : S25), (⟨1, 1⟩ : S25), (⟨2, 2⟩ : S25), (⟨3, 3⟩ : S25), (⟨4, 4⟩ : S25), (⟨5, 5⟩ : S25), (⟨6, 6⟩ : S25), (⟨7, 7⟩ : S25)] : List (S25))) := ⟨_, rfl⟩
 replace H : (some y107) = some r := by first | (rw [hy107]; with_reducible exact H) | (have H2_ := (Option.bind_some _ _).symm.trans H; rw [hy107]; with_reducible exact H2_) | (have H2_ := (Option.bind_some _ _).symm.trans H; with_reducible exact H2_) | with_reducible exact H | (rw [hy107]; exact H) | exact H
 have Ny107 := Aside0.mk hy107;clear hy107
 obtain rfl := Option.some.inj H
 go_enter Tryd.func6, Tryd.ntmps6
 go_wp2_with (first | ((with_reducible refine gate_dst (N := 64) rfl ?_); refine Kd.R_lit k25 _ 25 ?hg (N := 64) ?hd (xs := ([(⟨1, 1⟩ : S25), (⟨2, 2⟩ : S25), (⟨3, 3⟩ : S25), (⟨4, 4⟩ : S25), (⟨5, 5⟩ : S25), (⟨1, 1⟩ : S25), (⟨2, 2⟩ : S25), (⟨3, 3⟩ : S25), (⟨4, 4⟩ : S25), (⟨0, 0⟩ : S25), (⟨1, 1⟩ : S25), (⟨2, 2⟩ : S25), (⟨3, 3⟩ : S25), (⟨4, 4⟩ : S25), (⟨1, 1⟩ : S25), (⟨2, 2⟩ : S25), (⟨3, 3⟩ : S25), (⟨4, 4⟩ : S25), (⟨5, 5⟩ : S25), (⟨6, 6⟩ : S25), (⟨1, 1⟩ : S25), (⟨2, 2⟩ : S25), (⟨3, 3⟩ : S25), (⟨4, 4⟩ : S25), (⟨1, 1⟩ : S25), (⟨2, 2⟩ : S25), (⟨3, 3⟩ : S25), (⟨4, 4⟩ : S25), (⟨0, 0⟩ : S25), (⟨1, 1⟩ : S25), (⟨2, 2⟩ : S25), (⟨1, 1⟩ : S25), (⟨2, 2⟩ : S25), (⟨3, 3⟩ : S25), (⟨4, 4⟩ : S25), (⟨5, 5⟩ : S25), (⟨6, 6⟩ : S25), (⟨1, 1⟩ : S25), (⟨2, 2⟩ : S25), (⟨3, 3⟩ : S25), (⟨4, 4⟩ : S25), (⟨1, 1⟩ : S25), (⟨2, 2⟩ : S25), (⟨1, 1⟩ : S25), (⟨2, 2⟩ : S25), (⟨1, 1⟩ : S25), (⟨2, 2⟩ : S25), (⟨3, 3⟩ : S25), (⟨4, 4⟩ : S25), (⟨5, 5⟩ : S25), (⟨6, 6⟩ : S25), (⟨7, 7⟩ : S25), (⟨8, 8⟩ : S25), (⟨1, 1⟩ : S25), (⟨2, 2⟩ : S25), (⟨3, 3⟩ : S25), (⟨1, 1⟩ : S25), (⟨2, 2⟩ : S25), (⟨3, 3⟩ : S25), (⟨4, 4⟩ : S25), (⟨5, 5⟩ : S25), (⟨6, 6⟩ : S25), (⟨7, 7⟩ : S25)] : List (S25))) (inner := [.int .i64 1, .int .i64 1, .int .i64 2, .int .i64 2, .int .i64 3, .int .i64 3, .int .i64 4, .int .i64 4, .int .i64 5, .int .i64 5, .int .i64 1, .int .i64 1, .int .i64 2, .int .i64 2, .int .i64 3, .int .i64 3, .int .i64 4, .int .i64 4, .int .i64 0, .int .i64 0, .int .i64 1, .int .i64 1, .int .i64 2, .int .i64 2, .int .i64 3, .int .i64 3, .int .i64 4, .int .i64 4, .int .i64 1, .int .i64 1, .int .i64 2, .int .i64 2, .int .i64 3, .int .i64 3, .int .i64 4, .int .i64 4, .int .i64 5, .int .i64 5, .int .i64 6, .int .i64 6, .int .i64 1, .int .i64 1, .int .i64 2, .int .i64 2, .int .i64 3, .int .i64 3, .int .i64 4, .int .i64 4, .int .i64 1, .int .i64 1, .int .i64 2, .int .i64 2, .int .i64 3, .int .i64 3, .int .i64 4, .int .i64 4, .int .i64 0, .int .i64 0, .int .i64 1, .int .i64 1, .int .i64 2, .int .i64 2, .int .i64 1, .int .i64 1, .int .i64 2, .int .i64 2, .int .i64 3, .int .i64 3, .int .i64 4, .int .i64 4, .int .i64 5, .int .i64 5, .int .i64 6, .int .i64 6, .int .i64 1, .int .i64 1, .int .i64 2, .int .i64 2, .int .i64 3, .int .i64 3, .int .i64 4, .int .i64 4, .int .i64 1, .int .i64 1, .int .i64 2, .int .i64 2, .int .i64 1, .int .i64 1, .int .i64 2, .int .i64 2, .int .i64 1, .int .i64 1, .int .i64 2, .int .i64 2, .int .i64 3, .int .i64 3, .int .i64 4, .int .i64 4, .int .i64 5, .int .i64 5, .int .i64 6, .int .i64 6, .int .i64 7, .int .i64 7, .int .i64 8, .int .i64 8, .int .i64 1, .int .i64 1, .int .i64 2, .int .i64 2, .int .i64 3, .int .i64 3, .int .i64 1, .int .i64 1, .int .i64 2, .int .i64 2, .int .i64 3, .int .i64 3, .int .i64 4, .int .i64 4, .int .i64 5, .int .i64 5, .int .i64 6, .int .i64 6, .int .i64 7, .int .i64 7]) (ok := fun _ => True) (okp := fun _ => True) ?hr ?hp (fun _ hk => hk) trivial (Below.refl _ _) (Nat.le_refl _) (by simp) ?_; (case hd => rfl); (case hg => rfl); (case hr => kernel_rfl); (case hp => exact (Reps.c2 (show Kd.M k25 _ _ _ (⟨1, 1⟩ : S25) [.int .i64 1, .int .i64 1] from (k25_mkM _ _ _ (⟨1, 1⟩ : S25) )) (Reps.c2 (show Kd.M k25 _ _ _ (⟨2, 2⟩ : S25) [.int .i64 2, .int .i64 2] from (k25_mkM _ _ _ (⟨2, 2⟩ : S25) )) (Reps.c2 (show Kd.M k25 _ _ _ (⟨3, 3⟩ : S25) [.int .i64 3, .int .i64 3] from (k25_mkM _ _ _ (⟨3, 3⟩ : S25) )) (Reps.c2 (show Kd.M k25 _ _ _ (⟨4, 4⟩ : S25) [.int .i64 4, .int .i64 4] from (k25_mkM _ _ _ (⟨4, 4⟩ : S25) )) (Reps.c2 (show Kd.M k25 _ _ _ (⟨5, 5⟩ : S25) [.int .i64 5, .int .i64 5] from (k25_mkM _ _ _ (⟨5, 5⟩ : S25) )) (Reps.c2 (show Kd.M k25 _ _ _ (⟨1, 1⟩ : S25) [.int .i64 1, .int .i64 1] from (k25_mkM _ _ _ (⟨1, 1⟩ : S25) )) (Reps.c2 (show Kd.M k25 _ _ _ (⟨2, 2⟩ : S25) [.int .i64 2, .int .i64 2] from (k25_mkM _ _ _ (⟨2, 2⟩ : S25) )) (Reps.c2 (show Kd.M k25 _ _ _ (⟨3, 3⟩ : S25) [.int .i64 3, .int .i64 3] from (k25_mkM _ _ _ (⟨3, 3⟩ : S25) )) (Reps.c2 (show Kd.M k25 _ _ _ (⟨4, 4⟩ : S25) [.int .i64 4, .int .i64 4] from (k25_mkM _ _ _ (⟨4, 4⟩ : S25) )) (Reps.c2 (show Kd.M k25 _ _ _ (⟨0, 0⟩ : S25) [.int .i64 0, .int .i64 0] from (k25_mkM _ _ _ (⟨0, 0⟩ : S25) )) (Reps.c2 (show Kd.M k25 _ _ _ (⟨1, 1⟩ : S25) [.int .i64 1, .int .i64 1] from (k25_mkM _ _ _ (⟨1, 1⟩ : S25) )) (Reps.c2 (show Kd.M k25 _ _ _ (⟨2, 2⟩ : S25) [.int .i64 2, .int .i64 2] from (k25_mkM _ _ _ (⟨2, 2⟩ : S25) )) (Reps.c2 (show Kd.M k25 _ _ _ (⟨3, 3⟩ : S25) [.int .i64 3, .int .i64 3] from (k25_mkM _ _ _ (⟨3, 3⟩ : S25) )) (Reps.c2 (show Kd.M k25 _ _ _ (⟨4, 4⟩ : S25) [.int .i64 4, .int .i64 4] from (k25_mkM _ _ _ (⟨4, 4⟩ : S25) )) (Reps.c2 (show Kd.M k25 _ _ _ (⟨1, 1⟩ : S25) [.int .i64 1, .int .i64 1] from (k25_mkM _ _ _ (⟨1, 1⟩ : S25) )) (Reps.c2 (show Kd.M k25 _ _ _ (⟨2, 2⟩ : S25) [.int .i64 2, .int .i64 2] from (k25_mkM _ _ _ (⟨2, 2⟩ : S25) )) (Reps.c2 (show Kd.M k25 _ _ _ (⟨3, 3⟩ : S25) [.int .i64 3, .int .i64 3] from (k25_mkM _ _ _ (⟨3, 3⟩ : S25) )) (Reps.c2 (show Kd.M k25 _ _ _ (⟨4, 4⟩ : S25) [.int .i64 4, .int .i64 4] from (k25_mkM _ _ _ (⟨4, 4⟩ : S25) )) (Reps.c2 (show Kd.M k25 _ _ _ (⟨5, 5⟩ : S25) [.int .i64 5, .int .i64 5] from (k25_mkM _ _ _ (⟨5, 5⟩ : S25) )) (Reps.c2 (show Kd.M k25 _ _ _ (⟨6, 6⟩ : S25) [.int .i64 6, .int .i64 6] from (k25_mkM _ _ _ (⟨6, 6⟩ : S25) )) (Reps.c2 (show Kd.M k25 _ _ _ (⟨1, 1⟩ : S25) [.int .i64 1, .int .i64 1] from (k25_mkM _ _ _ (⟨1, 1⟩ : S25) )) (Reps.c2 (show Kd.M k25 _ _ _ (⟨2, 2⟩ : S25) [.int .i64 2, .int .i64 2] from (k25_mkM _ _ _ (⟨2, 2⟩ : S25) )) (Reps.c2 (show Kd.M k25 _ _ _ (⟨3, 3⟩ : S25) [.int .i64 3, .int .i64 3] from (k25_mkM _ _ _ (⟨3, 3⟩ : S25) )) (Reps.c2 (show Kd.M k25 _ _ _ (⟨4, 4⟩ : S25) [.int .i64 4, .int .i64 4] from (k25_mkM _ _ _ (⟨4, 4⟩ : S25) )) (Reps.c2 (show Kd.M k25 _ _ _ (⟨1, 1⟩ : S25) [.int .i64 1, .int .i64 1] from (k25_mkM _ _ _ (⟨1, 1⟩ : S25) )) (Reps.c2 (show Kd.M k25 _ _ _ (⟨2, 2⟩ : S25) [.int .i64 2, .int .i64 2] from (k25_mkM _ _ _ (⟨2, 2⟩ : S25) )) (Reps.c2 (show Kd.M k25 _ _ _ (⟨3, 3⟩ : S25) [.int .i64 3, .int .i64 3] from (k25_mkM _ _ _ (⟨3, 3⟩ : S25) )) (Reps.c2 (show Kd.M k25 _ _ _ (⟨4, 4⟩ : S25) [.int .i64 4, .int .i64 4] from (k25_mkM _ _ _ (⟨4, 4⟩ : S25) )) (Reps.c2 (show Kd.M k25 _ _ _ (⟨0, 0⟩ : S25) [.int .i64 0, .int .i64 0] from (k25_mkM _ _ _ (⟨0, 0⟩ : S25) )) (Reps.c2 (show Kd.M k25 _ _ _ (⟨1, 1⟩ : S25) [.int .i64 1, .int .i64 1] from (k25_mkM _ _ _ (⟨1, 1⟩ : S25) )) (Reps.c2 (show Kd.M k25 _ _ _ (⟨2, 2⟩ : S25) [.int .i64 2, .int .i64 2] from (k25_mkM _ _ _ (⟨2, 2⟩ : S25) )) (Reps.c2 (show Kd.M k25 _ _ _ (⟨1, 1⟩ : S25) [.int .i64 1, .int .i64 1] from (k25_mkM _ _ _ (⟨1, 1⟩ : S25) )) (Reps.c2 (show Kd.M k25 _ _ _ (⟨2, 2⟩ : S25) [.int .i64 2, .int .i64 2] from (k25_mkM _ _ _ (⟨2, 2⟩ : S25) )) (Reps.c2 (show Kd.M k25 _ _ _ (⟨3, 3⟩ : S25) [.int .i64 3, .int .i64 3] from (k25_mkM _ _ _ (⟨3, 3⟩ : S25) )) (Reps.c2 (show Kd.M k25 _ _ _ (⟨4, 4⟩ : S25) [.int .i64 4, .int .i64 4] from (k25_mkM _ _ _ (⟨4, 4⟩ : S25) )) (Reps.c2 (show Kd.M k25 _ _ _ (⟨5, 5⟩ : S25) [.int .i64 5, .int .i64 5] from (k25_mkM _ _ _ (⟨5, 5⟩ : S25) )) (Reps.c2 (show Kd.M k25 _ _ _ (⟨6, 6⟩ : S25) [.int .i64 6, .int .i64 6] from (k25_mkM _ _ _ (⟨6, 6⟩ : S25) )) (Reps.c2 (show Kd.M k25 _ _ _ (⟨1, 1⟩ : S25) [.int .i64 1, .int .i64 1] from (k25_mkM _ _ _ (⟨1, 1⟩ : S25) )) (Reps.c2 (show Kd.M k25 _ _ _ (⟨2, 2⟩ : S25) [.int .i64 2, .int .i64 2] from (k25_mkM _ _ _ (⟨2, 2⟩ : S25) )) (Reps.c2 (show Kd.M k25 _ _ _ (⟨3, 3⟩ : S25) [.int .i64 3, .int .i64 3] from (k25_mkM _ _ _ (⟨3, 3⟩ : S25) )) (Reps.c2 (show Kd.M k25 _ _ _ (⟨4, 4⟩ : S25) [.int .i64 4, .int .i64 4] from (k25_mkM _ _ _ (⟨4, 4⟩ : S25) )) (Reps.c2 (show Kd.M k25 _ _ _ (⟨1, 1⟩ : S25) [.int .i64 1, .int .i64 1] from (k25_mkM _ _ _ (⟨1, 1⟩ : S25) )) (Reps.c2 (show Kd.M k25 _ _ _ (⟨2, 2⟩ : S25) [.int .i64 2, .int .i64 2] from (k25_mkM _ _ _ (⟨2, 2⟩ : S25) )) (Reps.c2 (show Kd.M k25 _ _ _ (⟨1, 1⟩ : S25) [.int .i64 1, .int .i64 1] from (k25_mkM _ _ _ (⟨1, 1⟩ : S25) )) (Reps.c2 (show Kd.M k25 _ _ _ (⟨2, 2⟩ : S25) [.int .i64 2, .int .i64 2] from (k25_mkM _ _ _ (⟨2, 2⟩ : S25) )) (Reps.c2 (show Kd.M k25 _ _ _ (⟨1, 1⟩ : S25) [.int .i64 1, .int .i64 1] from (k25_mkM _ _ _ (⟨1, 1⟩ : S25) )) (Reps.c2 (show Kd.M k25 _ _ _ (⟨2, 2⟩ : S25) [.int .i64 2, .int .i64 2] from (k25_mkM _ _ _ (⟨2, 2⟩ : S25) )) (Reps.c2 (show Kd.M k25 _ _ _ (⟨3, 3⟩ : S25) [.int .i64 3, .int .i64 3] from (k25_mkM _ _ _ (⟨3, 3⟩ : S25) )) (Reps.c2 (show Kd.M k25 _ _ _ (⟨4, 4⟩ : S25) [.int .i64 4, .int .i64 4] from (k25_mkM _ _ _ (⟨4, 4⟩ : S25) )) (Reps.c2 (show Kd.M k25 _ _ _ (⟨5, 5⟩ : S25) [.int .i64 5, .int .i64 5] from (k25_mkM _ _ _ (⟨5, 5⟩ : S25) )) (Reps.c2 (show Kd.M k25 _ _ _ (⟨6, 6⟩ : S25) [.int .i64 6, .int .i64 6] from (k25_mkM _ _ _ (⟨6, 6⟩ : S25) )) (Reps.c2 (show Kd.M k25 _ _ _ (⟨7, 7⟩ : S25) [.int .i64 7, .int .i64 7] from (k25_mkM _ _ _ (⟨7, 7⟩ : S25) )) (Reps.c2 (show Kd.M k25 _ _ _ (⟨8, 8⟩ : S25) [.int .i64 8, .int .i64 8] from (k25_mkM _ _ _ (⟨8, 8⟩ : S25) )) (Reps.c2 (show Kd.M k25 _ _ _ (⟨1, 1⟩ : S25) [.int .i64 1, .int .i64 1] from (k25_mkM _ _ _ (⟨1, 1⟩ : S25) )) (Reps.c2 (show Kd.M k25 _ _ _ (⟨2, 2⟩ : S25) [.int .i64 2, .int .i64 2] from (k25_mkM _ _ _ (⟨2, 2⟩ : S25) )) (Reps.c2 (show Kd.M k25 _ _ _ (⟨3, 3⟩ : S25) [.int .i64 3, .int .i64 3] from (k25_mkM _ _ _ (⟨3, 3⟩ : S25) )) (Reps.c2 (show Kd.M k25 _ _ _ (⟨1, 1⟩ : S25) [.int .i64 1, .int .i64 1] from (k25_mkM _ _ _ (⟨1, 1⟩ : S25) )) (Reps.c2 (show Kd.M k25 _ _ _ (⟨2, 2⟩ : S25) [.int .i64 2, .int .i64 2] from (k25_mkM _ _ _ (⟨2, 2⟩ : S25) )) (Reps.c2 (show Kd.M k25 _ _ _ (⟨3, 3⟩ : S25) [.int .i64 3, .int .i64 3] from (k25_mkM _ _ _ (⟨3, 3⟩ : S25) )) (Reps.c2 (show Kd.M k25 _ _ _ (⟨4, 4⟩ : S25) [.int .i64 4, .int .i64 4] from (k25_mkM _ _ _ (⟨4, 4⟩ : S25) )) (Reps.c2 (show Kd.M k25 _ _ _ (⟨5, 5⟩ : S25) [.int .i64 5, .int .i64 5] from (k25_mkM _ _ _ (⟨5, 5⟩ : S25) )) (Reps.c2 (show Kd.M k25 _ _ _ (⟨6, 6⟩ : S25) [.int .i64 6, .int .i64 6] from (k25_mkM _ _ _ (⟨6, 6⟩ : S25) )) (Reps.c2 (show Kd.M k25 _ _ _ (⟨7, 7⟩ : S25) [.int .i64 7, .int .i64 7] from (k25_mkM _ _ _ (⟨7, 7⟩ : S25) )) (Reps.none _ _))))))))))))))))))))))))))))))))))))))))))))))))))))))))))))))))); intro v108 w1 ho2 hb hg_ hnew_; clear hg_ hnew_; (first | rw [← Ny107.out] at ho2 | (simp only [Int.reduceToNat] at ho2; rw [← Ny107.out] at ho2)); have n0_ := Aside0.mk (Kd.R_lower ho2 (below_size (by repeat (first | (with_reducible first | exact HB.out | apply below_alloc | apply pw_below_drewN | apply below_drew1) | exact HB.out)))); have n1_ := Aside0.mk (below_step (by repeat (first | (with_reducible first | exact HB.out | apply below_alloc | apply pw_below_drewN | apply below_drew1) | exact HB.out)) hb); clear HB; have HO109 := n0_; have HB := n1_; clear n0_ n1_; clear hb ho2))
 go_ret
 exact ⟨_, by first | rfl | (simp [errW_none, errW_some] <;> rfl) | (simp [*, errW_none, errW_some] <;> rfl), by (with_reducible repeat (first | apply Kd.R_alloc | apply Kd.R_drewN | apply Kd.R_drew)); exact HO109.out, by repeat (first | (with_reducible first | exact HB.out | apply below_alloc | apply pw_below_drewN | apply below_drew1) | exact HB.out)⟩
end Go.Proofs.YtkhpkmlhjibojaaDoor.Q
namespace Go.Proofs
open Go.Shelf
def Tryd.laysM171_ren : Go.Shelf.Ren := ⟨fun | 171 => 12 | 243 => 17 | 246 => 18 | 283 => 19 | 284 => 20 | 285 => 21 | 286 => 22 | 129 => 24 | 317 => 23 | 318 => 25 | 319 => 26 | 320 => 27 | 337 => 28 | 338 => 29 | n => n, fun | 3 => 3 | 9 => 9 | 2 => 2 | 4 => 4 | 171 => 39 | 0 => 0 | 53 => 28 | 37 => 42 | 5 => 5 | 173 => 43 | 212 => 47 | 51 => 32 | 20 => 20 | 213 => 48 | 46 => 50 | 232 => 53 | 233 => 54 | n => n, fun | 17 => 1 | 18 => 2 | 19 => 3 | n => n⟩
theorem Tryd.laysM171 : Go.Proofs.LaysM.n171 Tryd.prog Tryd.laysM171_ren := {
 mixed := by kernel_rfl
 f129 := Tryd.func24.trans (congrArg some (by kernel_rfl))
 f171 := Tryd.func12.trans (congrArg some (by kernel_rfl))
 f243 := Tryd.func17.trans (congrArg some (by kernel_rfl))
 f246 := Tryd.func18.trans (congrArg some (by kernel_rfl))
 f283 := Tryd.func19.trans (congrArg some (by kernel_rfl))
 f284 := Tryd.func20.trans (congrArg some (by kernel_rfl))
 f285 := Tryd.func21.trans (congrArg some (by kernel_rfl))
 f286 := Tryd.func22.trans (congrArg some (by kernel_rfl))
 f317 := Tryd.func23.trans (congrArg some (by kernel_rfl))
 f318 := Tryd.func25.trans (congrArg some (by kernel_rfl))
 f319 := Tryd.func26.trans (congrArg some (by kernel_rfl))
 f320 := Tryd.func27.trans (congrArg some (by kernel_rfl))
 f337 := Tryd.func28.trans (congrArg some (by kernel_rfl))
 f338 := Tryd.func29.trans (congrArg some (by kernel_rfl))
 t0 := Tryd.underlying0
 a0 := Tryd.isAgg0
 z0 := Tryd.sizeOf0
 v0 := Tryd.zeroValue0
 t2 := Tryd.underlying2
 a2 := Tryd.isAgg2
 z2 := Tryd.sizeOf2
 v2 := Tryd.zeroValue2
 t3 := Tryd.underlying3
 a3 := Tryd.isAgg3
 z3 := Tryd.sizeOf3
 v3 := Tryd.zeroValue3
 t4 := Tryd.underlying4
 a4 := Tryd.isAgg4
 z4 := Tryd.sizeOf4
 v4 := Tryd.zeroValue4
 t5 := Tryd.underlying5
 a5 := Tryd.isAgg5
 z5 := Tryd.sizeOf5
 v5 := Tryd.zeroValue5
 t9 := Tryd.underlying9
 a9 := Tryd.isAgg9
 z9 := Tryd.sizeOf9
 v9 := Tryd.zeroValue9
 t20 := Tryd.underlying20
 a20 := Tryd.isAgg20
 z20 := Tryd.sizeOf20
 v20 := Tryd.zeroValue20
 t37 := Tryd.underlying42
 a37 := Tryd.isAgg42
 z37 := Tryd.sizeOf42
 v37 := Tryd.zeroValue42
 t46 := Tryd.underlying50
 a46 := Tryd.isAgg50
 z46 := Tryd.sizeOf50
 v46 := Tryd.zeroValue50
 t51 := Tryd.underlying32
 a51 := Tryd.isAgg32
 z51 := Tryd.sizeOf32
 v51 := Tryd.zeroValue32
 t53 := Tryd.underlying28
 a53 := Tryd.isAgg28
 z53 := Tryd.sizeOf28
 v53 := Tryd.zeroValue28
 t171 := Tryd.underlying39
 a171 := Tryd.isAgg39
 z171 := Tryd.sizeOf39
 v171 := Tryd.zeroValue39
 t173 := Tryd.underlying43
 a173 := Tryd.isAgg43
 z173 := Tryd.sizeOf43
 v173 := Tryd.zeroValue43
 t212 := Tryd.underlying47
 a212 := Tryd.isAgg47
 z212 := Tryd.sizeOf47
 v212 := Tryd.zeroValue47
 t213 := Tryd.underlying48
 a213 := Tryd.isAgg48
 z213 := Tryd.sizeOf48
 t232 := Tryd.underlying53
 a232 := Tryd.isAgg53
 z232 := Tryd.sizeOf53
 v232 := Tryd.zeroValue53
 t233 := Tryd.underlying54
 a233 := Tryd.isAgg54
 z233 := Tryd.sizeOf54
 v233 := Tryd.zeroValue54
 g17 := by kernel_rfl
 g18 := by kernel_rfl
 g19 := by kernel_rfl
 i0 := by kernel_rfl
 i2 := by kernel_rfl
 i3 := by kernel_rfl
 i4 := by kernel_rfl
 i5 := by kernel_rfl
 i9 := by kernel_rfl
 i20 := by kernel_rfl
 i37 := by kernel_rfl
 i46 := by kernel_rfl
 i51 := by kernel_rfl
 i53 := by kernel_rfl
 i171 := by kernel_rfl
 i173 := by kernel_rfl
 i212 := by kernel_rfl
 i232 := by kernel_rfl
 i233 := by kernel_rfl
 m17 := by kernel_rfl
 m18 := by kernel_rfl
 m19 := by kernel_rfl }
open Go.RowKit Go.Sort Go.Lib in
theorem Tryd.strconv_Itoa (n : Int) (h0 : -9223372036854775808 ≤ n) (h1 : n ≤ 9223372036854775807) (w : World) (htab : Lib.TabIs Tryd.prog w "internal/strconv.uint64pow10" .u64 Lib.pow10Tab) :
    Calls Tryd.prog 12 #[.int .i64 n] w fun e w' => e = .returned (.string ⟨(Lib.itoa n).toArray⟩) ∧ ∃ k os, w' = grow (w.drewN k) os := Any.strconv_Itoa Tryd.laysM171 n h0 h1 w htab
def Tryd.lays171_ren : Go.Shelf.Ren := ⟨fun | 171 => 12 | 243 => 17 | 246 => 18 | 283 => 19 | 284 => 20 | 285 => 21 | 286 => 22 | 129 => 24 | 317 => 23 | 318 => 25 | 319 => 26 | 320 => 27 | 337 => 28 | 338 => 29 | n => n, fun | 3 => 3 | 9 => 9 | 2 => 2 | 4 => 4 | 171 => 39 | 0 => 0 | 53 => 28 | 37 => 42 | 5 => 5 | 173 => 43 | 212 => 47 | 51 => 32 | 20 => 20 | 213 => 48 | 46 => 50 | 232 => 53 | 233 => 54 | n => n, fun | 17 => 1 | 18 => 2 | 19 => 3 | n => n⟩
theorem Tryd.lays171 : Go.Proofs.Lays.n171 Tryd.prog Tryd.lays171_ren := {
 mixed := by kernel_rfl
 f129 := Tryd.func24.trans (congrArg some (by kernel_rfl))
 f171 := Tryd.func12.trans (congrArg some (by kernel_rfl))
 f243 := Tryd.func17.trans (congrArg some (by kernel_rfl))
 f246 := Tryd.func18.trans (congrArg some (by kernel_rfl))
 f283 := Tryd.func19.trans (congrArg some (by kernel_rfl))
 f284 := Tryd.func20.trans (congrArg some (by kernel_rfl))
 f285 := Tryd.func21.trans (congrArg some (by kernel_rfl))
 f286 := Tryd.func22.trans (congrArg some (by kernel_rfl))
 f317 := Tryd.func23.trans (congrArg some (by kernel_rfl))
 f318 := Tryd.func25.trans (congrArg some (by kernel_rfl))
 f319 := Tryd.func26.trans (congrArg some (by kernel_rfl))
 f320 := Tryd.func27.trans (congrArg some (by kernel_rfl))
 f337 := Tryd.func28.trans (congrArg some (by kernel_rfl))
 f338 := Tryd.func29.trans (congrArg some (by kernel_rfl))
 t0 := Tryd.underlying0
 a0 := Tryd.isAgg0
 z0 := Tryd.sizeOf0
 v0 := Tryd.zeroValue0
 t2 := Tryd.underlying2
 a2 := Tryd.isAgg2
 z2 := Tryd.sizeOf2
 v2 := Tryd.zeroValue2
 t3 := Tryd.underlying3
 a3 := Tryd.isAgg3
 z3 := Tryd.sizeOf3
 v3 := Tryd.zeroValue3
 t4 := Tryd.underlying4
 a4 := Tryd.isAgg4
 z4 := Tryd.sizeOf4
 v4 := Tryd.zeroValue4
 t5 := Tryd.underlying5
 a5 := Tryd.isAgg5
 z5 := Tryd.sizeOf5
 v5 := Tryd.zeroValue5
 t9 := Tryd.underlying9
 a9 := Tryd.isAgg9
 z9 := Tryd.sizeOf9
 v9 := Tryd.zeroValue9
 t20 := Tryd.underlying20
 a20 := Tryd.isAgg20
 z20 := Tryd.sizeOf20
 v20 := Tryd.zeroValue20
 t37 := Tryd.underlying42
 a37 := Tryd.isAgg42
 z37 := Tryd.sizeOf42
 v37 := Tryd.zeroValue42
 t46 := Tryd.underlying50
 a46 := Tryd.isAgg50
 z46 := Tryd.sizeOf50
 v46 := Tryd.zeroValue50
 t51 := Tryd.underlying32
 a51 := Tryd.isAgg32
 z51 := Tryd.sizeOf32
 v51 := Tryd.zeroValue32
 t53 := Tryd.underlying28
 a53 := Tryd.isAgg28
 z53 := Tryd.sizeOf28
 v53 := Tryd.zeroValue28
 t171 := Tryd.underlying39
 a171 := Tryd.isAgg39
 z171 := Tryd.sizeOf39
 v171 := Tryd.zeroValue39
 t173 := Tryd.underlying43
 a173 := Tryd.isAgg43
 z173 := Tryd.sizeOf43
 v173 := Tryd.zeroValue43
 t212 := Tryd.underlying47
 a212 := Tryd.isAgg47
 z212 := Tryd.sizeOf47
 v212 := Tryd.zeroValue47
 t213 := Tryd.underlying48
 a213 := Tryd.isAgg48
 z213 := Tryd.sizeOf48
 t232 := Tryd.underlying53
 a232 := Tryd.isAgg53
 z232 := Tryd.sizeOf53
 v232 := Tryd.zeroValue53
 t233 := Tryd.underlying54
 a233 := Tryd.isAgg54
 z233 := Tryd.sizeOf54
 v233 := Tryd.zeroValue54
 g17 := by kernel_rfl
 g18 := by kernel_rfl
 g19 := by kernel_rfl }
open Go.RowKit Go.Sort Go.Lib in
theorem Tryd.strconv_Itoa_small (i : Nat) (hi : i < 100) (w : World) :
    Calls Tryd.prog 12 #[.int .i64 i] w fun e w' => e = .returned (.string ⟨(Lib.decDigits i).toArray⟩) ∧ w' = w := Any.strconv_Itoa_small Tryd.lays171 i hi w
end Go.Proofs
namespace Go.Proofs.YtkhpkmlhjibojaaDoor.H
open Go.RowKit Go.Proofs.YtkhpkmlhjibojaaDoorW.PrintWords Go.Proofs.YtkhpkmlhjibojaaDoorW.PrintLast Go.Proofs.YtkhpkmlhjibojaaDoorW.PrintMore
theorem dec1 {u : Nat} (h : u < 10) : Lib.decDigits u = [UInt8.ofNat (48 + u)] := by rw [Lib.decDigits, dif_pos h]
theorem decS {u : Nat} (h : ¬ u < 10) : Lib.decDigits u = Lib.decDigits (u / 10) ++ [UInt8.ofNat (48 + u % 10)] := by rw [Lib.decDigits, dif_neg h]
theorem itoa_0 (w : World) : Calls Tryd.prog 12 #[.int .i64 0] w fun e w' => e = .returned (.string ⟨#[48]⟩) ∧ w' = w := by
 have h := Tryd.strconv_Itoa_small 0 (by omega) w
 rw [dec1 (by omega)] at h
 exact h
theorem itoa_210 (w : World) (htab : Lib.TabIs Tryd.prog w "internal/strconv.uint64pow10" .u64 Lib.pow10Tab) :
  Calls Tryd.prog 12 #[.int .i64 210] w fun e w' => e = .returned (.string ⟨#[50, 49, 48]⟩) ∧ Below w.heap.size w w' := by
 have h := Tryd.strconv_Itoa 210 (by omega) (by omega) w htab
 have e : Lib.itoa 210 = [50, 49, 48] := by
  unfold Lib.itoa
  rw [if_neg (by omega), show (210 : Int).toNat = 210 from rfl, decS (by omega), decS (u := 210 / 10) (by omega), dec1 (u := 210 / 10 / 10) (by omega)]
  rfl
 rw [e] at h
 refine h.mono ?_
 rintro e w' ⟨rfl, k, os, rfl⟩
 exact ⟨rfl, Lib.below_grow _ _ (Nat.le_refl _) _ _⟩
theorem error_0 (w : World) : Calls Tryd.prog 7 #[.int .i64 0] w fun e w' => e = .returned (.string ⟨#[101, 114, 114, 111, 114, 32, 48]⟩) ∧ Drawn0 w w' := by
 go_enter Tryd.func7, Tryd.ntmps7
 go_wp2_with (first | (go_at_call 12; (with_reducible refine (itoa_0 _).mono ?_); rintro e w' ⟨rfl, rfl⟩))
 go_ret
 exact ⟨rfl, by repeat (first | exact Drawn0.refl _ | apply Drawn0.step)⟩
theorem error_210 (w : World) (ht : Lib.TabBelow Tryd.prog w.heap.size w "internal/strconv.uint64pow10" .u64 Lib.pow10Tab) :
  Calls Tryd.prog 7 #[.int .i64 210] w fun e w' => e = .returned (.string ⟨#[101, 114, 114, 111, 114, 32, 50, 49, 48]⟩) ∧ Below w.heap.size w w' := by
 have HT := Aside0.mk ht
 have HB := Aside0.mk (Below.refl w.heap.size w)
 clear ht
 go_enter Tryd.func7, Tryd.ntmps7
 go_wp2_with (first | (go_at_call 12; (with_reducible refine (itoa_210 _ ?tab).mono ?_); (case tab => exact HT.out _ (by repeat (first | (with_reducible first | exact HB.out | apply pw_below_drewN) | exact HB.out))); rintro e w1 ⟨rfl, hb⟩; have n0_ := Aside0.mk (below_step (by repeat (first | (with_reducible first | exact HB.out | apply pw_below_drewN) | exact HB.out)) hb); clear HB hb; have HB := n0_; clear n0_))
 go_ret
 exact ⟨rfl, by repeat (first | exact HB.out | apply pw_below_drewN)⟩
theorem run13 (b : Nat) (w : World) : (callFunc 13 #[.float .f64 b]).run Tryd.prog w = .ok (.value (.int .u64 b)) w := by
  rw [run_callFunc_extern Tryd.func13 (by kernel_rfl) (by kernel_rfl) (by kernel_rfl) (e := Extern.MathFloatBits.float64bits) (by kernel_rfl)]; rfl
theorem run14 (b : Int) (w : World) : (callFunc 14 #[.int .u64 b]).run Tryd.prog w = .ok (.value (.float .f64 b.toNat)) w := by
  rw [run_callFunc_extern Tryd.func14 (by kernel_rfl) (by kernel_rfl) (by kernel_rfl) (e := Extern.MathFloatBits.float64frombits) (by kernel_rfl)]; rfl
theorem run15 (b : Nat) (w : World) : (callFunc 15 #[.float .f32 b]).run Tryd.prog w = .ok (.value (.int .u32 b)) w := by
  rw [run_callFunc_extern Tryd.func15 (by kernel_rfl) (by kernel_rfl) (by kernel_rfl) (e := Extern.MathFloatBits.float32bits) (by kernel_rfl)]; rfl
theorem run16 (b : Int) (w : World) : (callFunc 16 #[.int .u32 b]).run Tryd.prog w = .ok (.value (.float .f32 b.toNat)) w := by
  rw [run_callFunc_extern Tryd.func16 (by kernel_rfl) (by kernel_rfl) (by kernel_rfl) (e := Extern.MathFloatBits.float32frombits) (by kernel_rfl)]; rfl
theorem bits_calls (b : Nat) (w : World) : Calls Tryd.prog 8 #[.float .f64 b] w fun e w' => e = .returned (.int .u64 b) ∧ Drawn0 w w' := by
 have hd := run13
 go_enter Tryd.func8, Tryd.ntmps8
 go_wp2
 go_ret
 exact ⟨rfl, by repeat (first | exact Drawn0.refl _ | apply Drawn0.step)⟩
theorem float_calls (b : Int) (w : World) : Calls Tryd.prog 9 #[.int .u64 b] w fun e w' => e = .returned (.float .f64 b.toNat) ∧ Drawn0 w w' := by
 have hd := run14
 go_enter Tryd.func9, Tryd.ntmps9
 go_wp2
 go_ret
 exact ⟨rfl, by repeat (first | exact Drawn0.refl _ | apply Drawn0.step)⟩
theorem bits32_calls (b : Nat) (w : World) : Calls Tryd.prog 10 #[.float .f32 b] w fun e w' => e = .returned (.int .u32 b) ∧ Drawn0 w w' := by
 have hd := run15
 go_enter Tryd.func10, Tryd.ntmps10
 go_wp2
 go_ret
 exact ⟨rfl, by repeat (first | exact Drawn0.refl _ | apply Drawn0.step)⟩
theorem float32_calls (b : Int) (w : World) : Calls Tryd.prog 11 #[.int .u32 b] w fun e w' => e = .returned (.float .f32 b.toNat) ∧ Drawn0 w w' := by
 have hd := run16
 go_enter Tryd.func11, Tryd.ntmps11
 go_wp2
 go_ret
 exact ⟨rfl, by repeat (first | exact Drawn0.refl _ | apply Drawn0.step)⟩
theorem bits_one (w : World) : Calls Tryd.prog 8 #[.float .f64 4607182418800017408] w fun e w' => e = .returned (.int .u64 4607182418800017408) ∧ Drawn0 w w' := bits_calls 4607182418800017408 w
theorem float_neg (x : Nat) (hx : x = 13830554455654793216) (w : World) : Calls Tryd.prog 9 #[.int .u64 13830554455654793216] w fun e w' => e = .returned (.float .f64 x) ∧ Drawn0 w w' := by
  subst hx
  exact float_calls 13830554455654793216 w
theorem bits32_one (w : World) : Calls Tryd.prog 10 #[.float .f32 1065353216] w fun e w' => e = .returned (.int .u32 1065353216) ∧ Drawn0 w w' := bits32_calls 1065353216 w
theorem float32_neg (x : Nat) (hx : x = 3212836864) (w : World) : Calls Tryd.prog 11 #[.int .u32 3212836864] w fun e w' => e = .returned (.float .f32 x) ∧ Drawn0 w w' := by
  subst hx
  exact float32_calls 3212836864 w
theorem order_64 : (FloatKind.f64.format.order 13830554455654793216 13830554455654793216 == some Ordering.eq) = true := by decide +kernel
theorem order_32 : (FloatKind.f32.format.order 3212836864 3212836864 == some Ordering.eq) = true := by decide +kernel
theorem eql_run (t : TypeId) (k : FloatKind) {a b : Nat} (h : (k.format.order a b == some Ordering.eq) = true) (w : World) : (binOp .eql t (.float k a) (.float k b)).run Tryd.prog w = .ok (.bool true) w := by
 have e : binOp .eql t (.float k a) (.float k b) = pure (.bool (k.format.order a b == some .eq)) := by simp [binOp, Op.floatCmp]
 rw [e, h]
 rfl
theorem tab_on {w W : World} {nm : String} {kd : IntKind} {zs : List Int} (h : Lib.TabBelow Tryd.prog w.heap.size w nm kd zs) (hb : Below w.heap.size w W) : Lib.TabBelow Tryd.prog W.heap.size W nm kd zs := fun w' h' => h w' (below_step hb h')
end Go.Proofs.YtkhpkmlhjibojaaDoor.H
namespace Go.Proofs.YtkhpkmlhjibojaaDoor.Q
open Go.RowKit Go.Proofs.YtkhpkmlhjibojaaDoorW.PrintWords Go.Proofs.YtkhpkmlhjibojaaDoorW.PrintLast Go.Proofs.YtkhpkmlhjibojaaDoorW.PrintMore
attribute [local go_sem] max2_int min2_int max_two min_two max_three min_three max_four min_four   -- for this text's walks alone
def tenorlaw0_NamesNumbers.l0 : Nat → List (S25) → Int → Option (Bool)
  | 0, _, _ => none
  | k + 1, x1, x2 => if x2 < (x1.length : Int) then (if 0 ≤ x2 then (if ((rd_T25 x1 x2).f0) = ((rd_T25 x1 x2).f1) then (tenorlaw0_NamesNumbers.l0 k x1 (wrap64 (x2 + 1))) else (some false)) else (none)) else (some true)
def tenorlaw0_NamesNumbers.f (k : Nat)  : Option (Bool) := (tenorlaw0_errs.f).bind fun t129 => ((tenorlaw0_limits.f).bind fun t132 => (if t129.length + t132.length < 8796093022208 then ((some (t129 ++ t132 : List (S25))).bind fun y135 => ((tenorlaw0_kinds.f).bind fun t138 => (if y135.length + t138.length < 8796093022208 then (tenorlaw0_NamesNumbers.l0 k (y135 ++ t138) 0) else (none)))) else (none)))
theorem tenorlaw0_NamesNumbers.mono_l : ∀ k, (∀ y0 y1, LeO (tenorlaw0_NamesNumbers.l0 k y0 y1) (tenorlaw0_NamesNumbers.l0 (k + 1) y0 y1))
 | 0 => fun _ _ r h => by simp [tenorlaw0_NamesNumbers.l0] at h
 | k + 1 => by
  have ih0 := tenorlaw0_NamesNumbers.mono_l k
  ·
   intro y0 y1
   unfold tenorlaw0_NamesNumbers.l0
   repeat' first
   | (with_reducible exact ih0 _ _)
   | (with_reducible exact LeO.refl _)
   | (with_reducible exact LeO.none _)
   | (with_reducible refine LeO.ite ?_ ?_)
   | (with_reducible refine LeO.bind ?_ (fun _ => ?_))
   | exact ih0 _ _
   | exact LeO.none _
   | refine LeO.ite ?_ ?_
   | refine LeO.bind ?_ (fun _ => ?_)
theorem tenorlaw0_NamesNumbers.mono : ∀ k, LeO (tenorlaw0_NamesNumbers.f k ) (tenorlaw0_NamesNumbers.f (k + 1) ) := by
 intro  k
 have ih0 := tenorlaw0_NamesNumbers.mono_l k
 unfold tenorlaw0_NamesNumbers.f
 repeat' first
   | (with_reducible exact ih0 _ _)
   | (with_reducible exact LeO.refl _)
   | (with_reducible exact LeO.none _)
   | (with_reducible refine LeO.ite ?_ ?_)
   | (with_reducible refine LeO.bind ?_ (fun _ => ?_))
   | exact ih0 _ _
   | exact LeO.none _
   | refine LeO.ite ?_ ?_
   | refine LeO.bind ?_ (fun _ => ?_)
set_option maxHeartbeats 8000000 in
set_option maxRecDepth 100000 in
theorem tenorlaw0_NamesNumbers.calls (k : Nat)  (r : Bool) (w : World) (HTB : Lib.TabBelow Tryd.prog w.heap.size w "internal/strconv.uint64pow10" .u64 Lib.pow10Tab) (h : tenorlaw0_NamesNumbers.f k  = some r) :
  Calls Tryd.prog 3 #[] w fun e w' => e = .returned (.bool r) ∧ Below w.heap.size w w' := by
 have HB := Aside0.mk (Below.refl w.heap.size w)
 have HTA := Aside0.mk HTB;clear HTB
 obtain ⟨fx, hfx0⟩ : ∃ x : Nat, x = 13830554455654793216 := ⟨_, rfl⟩
 obtain ⟨gx, hgx0⟩ : ∃ x : Nat, x = 3212836864 := ⟨_, rfl⟩
 have hc64 : (FloatKind.f64.format.order fx 13830554455654793216 == some Ordering.eq) = true := by rw [hfx0]; exact H.order_64
 have hc32 : (FloatKind.f32.format.order gx 3212836864 == some Ordering.eq) = true := by rw [hgx0]; exact H.order_32
 have he64 : ∀ w : World, (binOp .eql 30 (.float .f64 fx) (.float .f64 13830554455654793216)).run Tryd.prog w = .ok (.bool true) w := fun w => Go.Proofs.YtkhpkmlhjibojaaDoor.H.eql_run 30 .f64 hc64 w
 have he32 : ∀ w : World, (binOp .eql 34 (.float .f32 gx) (.float .f32 3212836864)).run Tryd.prog w = .ok (.bool true) w := fun w => Go.Proofs.YtkhpkmlhjibojaaDoor.H.eql_run 34 .f32 hc32 w
 clear hc64 hc32;have hfx := Aside0.mk hfx0;have hgx := Aside0.mk hgx0;clear hfx0 hgx0
 have H : ((tenorlaw0_errs.f).bind fun t129 => ((tenorlaw0_limits.f).bind fun t132 => (if t129.length + t132.length < 8796093022208 then ((some (t129 ++ t132 : List (S25))).bind fun y135 => ((tenorlaw0_kinds.f).bind fun t138 => (if y135.length + t138.length < 8796093022208 then (tenorlaw0_NamesNumbers.l0 k (y135 ++ t138) 0) else (none)))) else (none)))) = some r := h
 clear h;replace H := Option.bind_eq_some_iff.mp H
 obtain ⟨t129, A10, H⟩ := H
 replace H : ((tenorlaw0_limits.f).bind fun t132 => (if t129.length + t132.length < 8796093022208 then ((some (t129 ++ t132 : List (S25))).bind fun y135 => ((tenorlaw0_kinds.f).bind fun t138 => (if y135.length + t138.length < 8796093022208 then (tenorlaw0_NamesNumbers.l0 k (y135 ++ t138) 0) else (none)))) else (none))) = some r := H
 have A1 := Aside0.mk A10;clear A10;replace H := Option.bind_eq_some_iff.mp H
 obtain ⟨t132, A20, H⟩ := H
 replace H : (if t129.length + t132.length < 8796093022208 then ((some (t129 ++ t132 : List (S25))).bind fun y135 => ((tenorlaw0_kinds.f).bind fun t138 => (if y135.length + t138.length < 8796093022208 then (tenorlaw0_NamesNumbers.l0 k (y135 ++ t138) 0) else (none)))) else (none)) = some r := H
 have A2 := Aside0.mk A20;clear A20
 by_cases c3 : t129.length + t132.length < 8796093022208
 ·
  rw [if_pos c3] at H
  have LMc3 := Aside0.mk c3;clear c3
  obtain ⟨y135, hy135⟩ : ∃ y_ : List (S25), y_ = (t129 ++ t132) := ⟨_, rfl⟩
  replace H : ((tenorlaw0_kinds.f).bind fun t138 => (if y135.length + t138.length < 8796093022208 then (tenorlaw0_NamesNumbers.l0 k (y135 ++ t138) 0) else (none))) = some r := by first | (rw [hy135]; with_reducible exact H) | (have H2_ := (Option.bind_some _ _).symm.trans H; rw [hy135]; with_reducible exact H2_) | (have H2_ := (Option.bind_some _ _).symm.trans H; with_reducible exact H2_) | with_reducible exact H | (rw [hy135]; exact H) | exact H
  have Ny135 := Aside0.mk hy135;clear hy135;replace H := Option.bind_eq_some_iff.mp H
  obtain ⟨t138, A40, H⟩ := H
  replace H : (if y135.length + t138.length < 8796093022208 then (tenorlaw0_NamesNumbers.l0 k (y135 ++ t138) 0) else (none)) = some r := H
  have A4 := Aside0.mk A40;clear A40
  by_cases c5 : y135.length + t138.length < 8796093022208
  ·
   rw [if_pos c5] at H
   have LMc5 := Aside0.mk c5;clear c5
   obtain ⟨y141, hy141⟩ : ∃ y_ : List (S25), y_ = (y135 ++ t138) := ⟨_, rfl⟩
   replace H : (tenorlaw0_NamesNumbers.l0 k y141 0) = some r := by first | (rw [hy141]; with_reducible exact H) | (have H2_ := (Option.bind_some _ _).symm.trans H; rw [hy141]; with_reducible exact H2_) | (have H2_ := (Option.bind_some _ _).symm.trans H; with_reducible exact H2_) | with_reducible exact H | (rw [hy141]; exact H) | exact H
   have Ny141 := Aside0.mk hy141;clear hy141;have H' := Aside0.mk H;clear H
   go_enter Tryd.func3, Tryd.ntmps3
   go_wp2_with (first | (go_at_call 4; (with_reducible refine (tenorlaw0_errs.calls  t129 _ A1.out).mono ?_); rintro e w6 ⟨v130, rfl, ho0, hb⟩; have n0_ := Aside0.mk (Kd.R_lower ho0 (below_size (by repeat (first | (with_reducible first | exact HB.out | apply below_alloc | apply pw_below_drewN | apply below_drew1) | exact HB.out)))); have n1_ := Aside0.mk (below_step (by repeat (first | (with_reducible first | exact HB.out | apply below_alloc | apply pw_below_drewN | apply below_drew1) | exact HB.out)) hb); clear HB; have HO131 := n0_; have HB := n1_; clear n0_ n1_; (try clear hb); (try clear hb2); (try clear hk); (try clear hi); (try clear ho0)) | (go_at_call 5; (with_reducible refine (tenorlaw0_limits.calls  t132 _ A2.out).mono ?_); rintro e w7 ⟨v133, rfl, ho0, hb⟩; have n0_ := Aside0.mk (Kd.R_elder' (by (with_reducible repeat (first | apply Kd.R_alloc | apply Kd.R_drewN | apply Kd.R_drew)); exact HO131.out) (Kd.R_base ho0) hb); have n1_ := Aside0.mk (Kd.R_lower (Kd.R_new' ho0 (Kd.R_lt (by (with_reducible repeat (first | apply Kd.R_alloc | apply Kd.R_drewN | apply Kd.R_drew)); exact HO131.out))) (below_size (by repeat (first | (with_reducible first | exact HB.out | apply below_alloc | apply pw_below_drewN | apply below_drew1) | exact HB.out)))); have n2_ := Aside0.mk (below_step (by repeat (first | (with_reducible first | exact HB.out | apply below_alloc | apply pw_below_drewN | apply below_drew1) | exact HB.out)) hb); clear HO131; clear HB; have HO131 := n0_; have HO134 := n1_; have HB := n2_; clear n0_ n1_ n2_; (try clear hb); (try clear hb2); (try clear hk); (try clear hi); (try clear ho0); obtain ⟨Ao9, co9, eo9⟩ := Kd.R_slice HO134.out; subst eo9) | ((with_reducible refine gate_builtin (b := .append) (xs := #[.tmp 3, .tmp 4]) rfl ?_); at_builtin; refine Kd.R_append_rows k25 (w0 := w) w.heap.size rfl (.tmp 3) (.tmp 4) 22 25 (.agg #[(.int .i64 0), (.int .i64 0)]) 16 rfl Tryd.underlying22 info25 rfl (by decide) (by omega) v130 t129 t132 _ _ _ (fun k_ => some k_ ≠ (.slice Ao9 t132.length co9 : Value).ownBlock) (fun _ => False) rfl rfl ?aO ?aR (fun _ _ h => h) (fun _ h => h.elim) ?aF ?aB ?aS ?aL ?_; (case aR => repeat (first | exact (Kd.R_reads' HO134.out).2.2 | (with_reducible refine Kd.C_alloc ?_ _) | (with_reducible refine Kd.C_drewN ?_ _) | (with_reducible refine Kd.C_drew ?_))); (case aB => exact (by repeat (first | (with_reducible first | exact HB.out | apply below_alloc | apply pw_below_drewN | apply below_drew1) | exact HB.out))); (case aF => exact (fun k_ hk => Kd.fresh' (Kd.R_lt (by (with_reducible repeat (first | apply Kd.R_alloc | apply Kd.R_drewN | apply Kd.R_drew)); exact HO134.out)) k_ hk)); (case aO => exact (by (with_reducible repeat (first | apply Kd.R_alloc | apply Kd.R_drewN | apply Kd.R_drew)); exact Kd.R_mono HO131.out (fun _ hk => hk.2))); (case aS => exact (below_size (by repeat (first | (with_reducible first | exact HB.out | apply below_alloc | apply pw_below_drewN | apply below_drew1) | exact HB.out)))); (case aL => have := LMc3.out; omega); intro v136 w8 ho hb hg hat; rw [← Ny135.out] at ho; have n0_ := Aside0.mk (Kd.R_after (ok := (fun _ => True)) (by (with_reducible repeat (first | apply Kd.R_alloc | apply Kd.R_drewN | apply Kd.R_drew)); exact HO134.out) hg hat); have n1_ := Aside0.mk (hb); have n2_ := Aside0.mk (ho); clear HO134; clear HB; clear HO131; have HO134 := n0_; have HB := n1_; have HO137 := n2_; clear n0_ n1_ n2_; clear ho hb hg hat) | (go_at_call 6; (with_reducible refine (tenorlaw0_kinds.calls  t138 _ A4.out).mono ?_); rintro e w10 ⟨v139, rfl, ho0, hb⟩; have n0_ := Aside0.mk (Kd.R_elder' (by (with_reducible repeat (first | apply Kd.R_alloc | apply Kd.R_drewN | apply Kd.R_drew)); exact HO134.out) (Kd.R_base ho0) hb); have n1_ := Aside0.mk (Kd.R_elder' (by (with_reducible repeat (first | apply Kd.R_alloc | apply Kd.R_drewN | apply Kd.R_drew)); exact HO137.out) (Kd.R_base ho0) hb); have n2_ := Aside0.mk (Kd.R_lower (Kd.R_new' (Kd.R_new' ho0 (Kd.R_lt (by (with_reducible repeat (first | apply Kd.R_alloc | apply Kd.R_drewN | apply Kd.R_drew)); exact HO134.out))) (Kd.R_lt (by (with_reducible repeat (first | apply Kd.R_alloc | apply Kd.R_drewN | apply Kd.R_drew)); exact HO137.out))) (below_size (by repeat (first | (with_reducible first | exact HB.out | apply below_alloc | apply pw_below_drewN | apply below_drew1) | exact HB.out)))); have n3_ := Aside0.mk (below_step (by repeat (first | (with_reducible first | exact HB.out | apply below_alloc | apply pw_below_drewN | apply below_drew1) | exact HB.out)) hb); clear HO134; clear HO137; clear HB; have HO134 := n0_; have HO137 := n1_; have HO140 := n2_; have HB := n3_; clear n0_ n1_ n2_ n3_; (try clear hb); (try clear hb2); (try clear hk); (try clear hi); (try clear ho0); obtain ⟨Ao12, co12, eo12⟩ := Kd.R_slice HO140.out; subst eo12) | ((with_reducible refine gate_builtin (b := .append) (xs := #[.tmp 5, .tmp 6]) rfl ?_); at_builtin; refine Kd.R_append_rows k25 (w0 := w) w.heap.size rfl (.tmp 5) (.tmp 6) 22 25 (.agg #[(.int .i64 0), (.int .i64 0)]) 16 rfl Tryd.underlying22 info25 rfl (by decide) (by omega) v136 y135 t138 _ _ _ (fun k_ => some k_ ≠ (.slice Ao9 t132.length co9 : Value).ownBlock ∧ some k_ ≠ (.slice Ao12 t138.length co12 : Value).ownBlock) (fun _ => False) rfl rfl ?aO ?aR (fun _ _ h => h) (fun _ h => h.elim) ?aF ?aB ?aS ?aL ?_; (case aR => repeat (first | exact (Kd.R_reads' HO140.out).2.2 | (with_reducible refine Kd.C_alloc ?_ _) | (with_reducible refine Kd.C_drewN ?_ _) | (with_reducible refine Kd.C_drew ?_))); (case aB => exact (by repeat (first | (with_reducible first | exact HB.out | apply below_alloc | apply pw_below_drewN | apply below_drew1) | exact HB.out))); (case aF => exact (fun k_ hk => ⟨Kd.fresh' (Kd.R_lt (by (with_reducible repeat (first | apply Kd.R_alloc | apply Kd.R_drewN | apply Kd.R_drew)); exact HO134.out)) k_ hk, Kd.fresh' (Kd.R_lt (by (with_reducible repeat (first | apply Kd.R_alloc | apply Kd.R_drewN | apply Kd.R_drew)); exact HO140.out)) k_ hk⟩)); (case aO => exact (by (with_reducible repeat (first | apply Kd.R_alloc | apply Kd.R_drewN | apply Kd.R_drew)); exact HO137.out)); (case aS => exact (below_size (by repeat (first | (with_reducible first | exact HB.out | apply below_alloc | apply pw_below_drewN | apply below_drew1) | exact HB.out)))); (case aL => have := LMc5.out; omega); intro v142 w11 ho hb hg hat; rw [← Ny141.out] at ho; have n0_ := Aside0.mk (Kd.R_after (ok := (fun k_ => some k_ ≠ (.slice Ao12 t138.length co12 : Value).ownBlock)) (by (with_reducible repeat (first | apply Kd.R_alloc | apply Kd.R_drewN | apply Kd.R_drew)); exact Kd.R_mono HO134.out (fun _ hk => ⟨hk.2, hk.1.2⟩)) hg hat); have n1_ := Aside0.mk (Kd.R_after (ok := (fun k_ => some k_ ≠ (.slice Ao9 t132.length co9 : Value).ownBlock)) (by (with_reducible repeat (first | apply Kd.R_alloc | apply Kd.R_drewN | apply Kd.R_drew)); exact Kd.R_mono HO140.out (fun _ hk => ⟨hk.1.2, hk.2⟩)) hg hat); have n2_ := Aside0.mk (hb); have n3_ := Aside0.mk (ho); clear HO134; clear HO140; clear HB; clear HO137; have HO134 := n0_; have HO140 := n1_; have HB := n2_; have HO143 := n3_; clear n0_ n1_ n2_ n3_; clear ho hb hg hat))
   repeat (go_quiet (first | (go_at_call 4; (with_reducible refine (tenorlaw0_errs.calls  t129 _ A1.out).mono ?_); rintro e w6 ⟨v130, rfl, ho0, hb⟩; have n0_ := Aside0.mk (Kd.R_lower ho0 (below_size (by repeat (first | (with_reducible first | exact HB.out | apply below_alloc | apply pw_below_drewN | apply below_drew1) | exact HB.out)))); have n1_ := Aside0.mk (below_step (by repeat (first | (with_reducible first | exact HB.out | apply below_alloc | apply pw_below_drewN | apply below_drew1) | exact HB.out)) hb); clear HB; have HO131 := n0_; have HB := n1_; clear n0_ n1_; (try clear hb); (try clear hb2); (try clear hk); (try clear hi); (try clear ho0)) | (go_at_call 5; (with_reducible refine (tenorlaw0_limits.calls  t132 _ A2.out).mono ?_); rintro e w7 ⟨v133, rfl, ho0, hb⟩; have n0_ := Aside0.mk (Kd.R_elder' (by (with_reducible repeat (first | apply Kd.R_alloc | apply Kd.R_drewN | apply Kd.R_drew)); exact HO131.out) (Kd.R_base ho0) hb); have n1_ := Aside0.mk (Kd.R_lower (Kd.R_new' ho0 (Kd.R_lt (by (with_reducible repeat (first | apply Kd.R_alloc | apply Kd.R_drewN | apply Kd.R_drew)); exact HO131.out))) (below_size (by repeat (first | (with_reducible first | exact HB.out | apply below_alloc | apply pw_below_drewN | apply below_drew1) | exact HB.out)))); have n2_ := Aside0.mk (below_step (by repeat (first | (with_reducible first | exact HB.out | apply below_alloc | apply pw_below_drewN | apply below_drew1) | exact HB.out)) hb); clear HO131; clear HB; have HO131 := n0_; have HO134 := n1_; have HB := n2_; clear n0_ n1_ n2_; (try clear hb); (try clear hb2); (try clear hk); (try clear hi); (try clear ho0); obtain ⟨Ao9, co9, eo9⟩ := Kd.R_slice HO134.out; subst eo9) | ((with_reducible refine gate_builtin (b := .append) (xs := #[.tmp 3, .tmp 4]) rfl ?_); at_builtin; refine Kd.R_append_rows k25 (w0 := w) w.heap.size rfl (.tmp 3) (.tmp 4) 22 25 (.agg #[(.int .i64 0), (.int .i64 0)]) 16 rfl Tryd.underlying22 info25 rfl (by decide) (by omega) v130 t129 t132 _ _ _ (fun k_ => some k_ ≠ (.slice Ao9 t132.length co9 : Value).ownBlock) (fun _ => False) rfl rfl ?aO ?aR (fun _ _ h => h) (fun _ h => h.elim) ?aF ?aB ?aS ?aL ?_; (case aR => repeat (first | exact (Kd.R_reads' HO134.out).2.2 | (with_reducible refine Kd.C_alloc ?_ _) | (with_reducible refine Kd.C_drewN ?_ _) | (with_reducible refine Kd.C_drew ?_))); (case aB => exact (by repeat (first | (with_reducible first | exact HB.out | apply below_alloc | apply pw_below_drewN | apply below_drew1) | exact HB.out))); (case aF => exact (fun k_ hk => Kd.fresh' (Kd.R_lt (by (with_reducible repeat (first | apply Kd.R_alloc | apply Kd.R_drewN | apply Kd.R_drew)); exact HO134.out)) k_ hk)); (case aO => exact (by (with_reducible repeat (first | apply Kd.R_alloc | apply Kd.R_drewN | apply Kd.R_drew)); exact Kd.R_mono HO131.out (fun _ hk => hk.2))); (case aS => exact (below_size (by repeat (first | (with_reducible first | exact HB.out | apply below_alloc | apply pw_below_drewN | apply below_drew1) | exact HB.out)))); (case aL => have := LMc3.out; omega); intro v136 w8 ho hb hg hat; rw [← Ny135.out] at ho; have n0_ := Aside0.mk (Kd.R_after (ok := (fun _ => True)) (by (with_reducible repeat (first | apply Kd.R_alloc | apply Kd.R_drewN | apply Kd.R_drew)); exact HO134.out) hg hat); have n1_ := Aside0.mk (hb); have n2_ := Aside0.mk (ho); clear HO134; clear HB; clear HO131; have HO134 := n0_; have HB := n1_; have HO137 := n2_; clear n0_ n1_ n2_; clear ho hb hg hat) | (go_at_call 6; (with_reducible refine (tenorlaw0_kinds.calls  t138 _ A4.out).mono ?_); rintro e w10 ⟨v139, rfl, ho0, hb⟩; have n0_ := Aside0.mk (Kd.R_elder' (by (with_reducible repeat (first | apply Kd.R_alloc | apply Kd.R_drewN | apply Kd.R_drew)); exact HO134.out) (Kd.R_base ho0) hb); have n1_ := Aside0.mk (Kd.R_elder' (by (with_reducible repeat (first | apply Kd.R_alloc | apply Kd.R_drewN | apply Kd.R_drew)); exact HO137.out) (Kd.R_base ho0) hb); have n2_ := Aside0.mk (Kd.R_lower (Kd.R_new' (Kd.R_new' ho0 (Kd.R_lt (by (with_reducible repeat (first | apply Kd.R_alloc | apply Kd.R_drewN | apply Kd.R_drew)); exact HO134.out))) (Kd.R_lt (by (with_reducible repeat (first | apply Kd.R_alloc | apply Kd.R_drewN | apply Kd.R_drew)); exact HO137.out))) (below_size (by repeat (first | (with_reducible first | exact HB.out | apply below_alloc | apply pw_below_drewN | apply below_drew1) | exact HB.out)))); have n3_ := Aside0.mk (below_step (by repeat (first | (with_reducible first | exact HB.out | apply below_alloc | apply pw_below_drewN | apply below_drew1) | exact HB.out)) hb); clear HO134; clear HO137; clear HB; have HO134 := n0_; have HO137 := n1_; have HO140 := n2_; have HB := n3_; clear n0_ n1_ n2_ n3_; (try clear hb); (try clear hb2); (try clear hk); (try clear hi); (try clear ho0); obtain ⟨Ao12, co12, eo12⟩ := Kd.R_slice HO140.out; subst eo12) | ((with_reducible refine gate_builtin (b := .append) (xs := #[.tmp 5, .tmp 6]) rfl ?_); at_builtin; refine Kd.R_append_rows k25 (w0 := w) w.heap.size rfl (.tmp 5) (.tmp 6) 22 25 (.agg #[(.int .i64 0), (.int .i64 0)]) 16 rfl Tryd.underlying22 info25 rfl (by decide) (by omega) v136 y135 t138 _ _ _ (fun k_ => some k_ ≠ (.slice Ao9 t132.length co9 : Value).ownBlock ∧ some k_ ≠ (.slice Ao12 t138.length co12 : Value).ownBlock) (fun _ => False) rfl rfl ?aO ?aR (fun _ _ h => h) (fun _ h => h.elim) ?aF ?aB ?aS ?aL ?_; (case aR => repeat (first | exact (Kd.R_reads' HO140.out).2.2 | (with_reducible refine Kd.C_alloc ?_ _) | (with_reducible refine Kd.C_drewN ?_ _) | (with_reducible refine Kd.C_drew ?_))); (case aB => exact (by repeat (first | (with_reducible first | exact HB.out | apply below_alloc | apply pw_below_drewN | apply below_drew1) | exact HB.out))); (case aF => exact (fun k_ hk => ⟨Kd.fresh' (Kd.R_lt (by (with_reducible repeat (first | apply Kd.R_alloc | apply Kd.R_drewN | apply Kd.R_drew)); exact HO134.out)) k_ hk, Kd.fresh' (Kd.R_lt (by (with_reducible repeat (first | apply Kd.R_alloc | apply Kd.R_drewN | apply Kd.R_drew)); exact HO140.out)) k_ hk⟩)); (case aO => exact (by (with_reducible repeat (first | apply Kd.R_alloc | apply Kd.R_drewN | apply Kd.R_drew)); exact HO137.out)); (case aS => exact (below_size (by repeat (first | (with_reducible first | exact HB.out | apply below_alloc | apply pw_below_drewN | apply below_drew1) | exact HB.out)))); (case aL => have := LMc5.out; omega); intro v142 w11 ho hb hg hat; rw [← Ny141.out] at ho; have n0_ := Aside0.mk (Kd.R_after (ok := (fun k_ => some k_ ≠ (.slice Ao12 t138.length co12 : Value).ownBlock)) (by (with_reducible repeat (first | apply Kd.R_alloc | apply Kd.R_drewN | apply Kd.R_drew)); exact Kd.R_mono HO134.out (fun _ hk => ⟨hk.2, hk.1.2⟩)) hg hat); have n1_ := Aside0.mk (Kd.R_after (ok := (fun k_ => some k_ ≠ (.slice Ao9 t132.length co9 : Value).ownBlock)) (by (with_reducible repeat (first | apply Kd.R_alloc | apply Kd.R_drewN | apply Kd.R_drew)); exact Kd.R_mono HO140.out (fun _ hk => ⟨hk.1.2, hk.2⟩)) hg hat); have n2_ := Aside0.mk (hb); have n3_ := Aside0.mk (ho); clear HO134; clear HO140; clear HB; clear HO137; have HO134 := n0_; have HO140 := n1_; have HB := n2_; have HO143 := n3_; clear n0_ n1_ n2_ n3_; clear ho hb hg hat)); try go_wp2_with (first | (go_at_call 4; (with_reducible refine (tenorlaw0_errs.calls  t129 _ A1.out).mono ?_); rintro e w6 ⟨v130, rfl, ho0, hb⟩; have n0_ := Aside0.mk (Kd.R_lower ho0 (below_size (by repeat (first | (with_reducible first | exact HB.out | apply below_alloc | apply pw_below_drewN | apply below_drew1) | exact HB.out)))); have n1_ := Aside0.mk (below_step (by repeat (first | (with_reducible first | exact HB.out | apply below_alloc | apply pw_below_drewN | apply below_drew1) | exact HB.out)) hb); clear HB; have HO131 := n0_; have HB := n1_; clear n0_ n1_; (try clear hb); (try clear hb2); (try clear hk); (try clear hi); (try clear ho0)) | (go_at_call 5; (with_reducible refine (tenorlaw0_limits.calls  t132 _ A2.out).mono ?_); rintro e w7 ⟨v133, rfl, ho0, hb⟩; have n0_ := Aside0.mk (Kd.R_elder' (by (with_reducible repeat (first | apply Kd.R_alloc | apply Kd.R_drewN | apply Kd.R_drew)); exact HO131.out) (Kd.R_base ho0) hb); have n1_ := Aside0.mk (Kd.R_lower (Kd.R_new' ho0 (Kd.R_lt (by (with_reducible repeat (first | apply Kd.R_alloc | apply Kd.R_drewN | apply Kd.R_drew)); exact HO131.out))) (below_size (by repeat (first | (with_reducible first | exact HB.out | apply below_alloc | apply pw_below_drewN | apply below_drew1) | exact HB.out)))); have n2_ := Aside0.mk (below_step (by repeat (first | (with_reducible first | exact HB.out | apply below_alloc | apply pw_below_drewN | apply below_drew1) | exact HB.out)) hb); clear HO131; clear HB; have HO131 := n0_; have HO134 := n1_; have HB := n2_; clear n0_ n1_ n2_; (try clear hb); (try clear hb2); (try clear hk); (try clear hi); (try clear ho0); obtain ⟨Ao9, co9, eo9⟩ := Kd.R_slice HO134.out; subst eo9) | ((with_reducible refine gate_builtin (b := .append) (xs := #[.tmp 3, .tmp 4]) rfl ?_); at_builtin; refine Kd.R_append_rows k25 (w0 := w) w.heap.size rfl (.tmp 3) (.tmp 4) 22 25 (.agg #[(.int .i64 0), (.int .i64 0)]) 16 rfl Tryd.underlying22 info25 rfl (by decide) (by omega) v130 t129 t132 _ _ _ (fun k_ => some k_ ≠ (.slice Ao9 t132.length co9 : Value).ownBlock) (fun _ => False) rfl rfl ?aO ?aR (fun _ _ h => h) (fun _ h => h.elim) ?aF ?aB ?aS ?aL ?_; (case aR => repeat (first | exact (Kd.R_reads' HO134.out).2.2 | (with_reducible refine Kd.C_alloc ?_ _) | (with_reducible refine Kd.C_drewN ?_ _) | (with_reducible refine Kd.C_drew ?_))); (case aB => exact (by repeat (first | (with_reducible first | exact HB.out | apply below_alloc | apply pw_below_drewN | apply below_drew1) | exact HB.out))); (case aF => exact (fun k_ hk => Kd.fresh' (Kd.R_lt (by (with_reducible repeat (first | apply Kd.R_alloc | apply Kd.R_drewN | apply Kd.R_drew)); exact HO134.out)) k_ hk)); (case aO => exact (by (with_reducible repeat (first | apply Kd.R_alloc | apply Kd.R_drewN | apply Kd.R_drew)); exact Kd.R_mono HO131.out (fun _ hk => hk.2))); (case aS => exact (below_size (by repeat (first | (with_reducible first | exact HB.out | apply below_alloc | apply pw_below_drewN | apply below_drew1) | exact HB.out)))); (case aL => have := LMc3.out; omega); intro v136 w8 ho hb hg hat; rw [← Ny135.out] at ho; have n0_ := Aside0.mk (Kd.R_after (ok := (fun _ => True)) (by (with_reducible repeat (first | apply Kd.R_alloc | apply Kd.R_drewN | apply Kd.R_drew)); exact HO134.out) hg hat); have n1_ := Aside0.mk (hb); have n2_ := Aside0.mk (ho); clear HO134; clear HB; clear HO131; have HO134 := n0_; have HB := n1_; have HO137 := n2_; clear n0_ n1_ n2_; clear ho hb hg hat) | (go_at_call 6; (with_reducible refine (tenorlaw0_kinds.calls  t138 _ A4.out).mono ?_); rintro e w10 ⟨v139, rfl, ho0, hb⟩; have n0_ := Aside0.mk (Kd.R_elder' (by (with_reducible repeat (first | apply Kd.R_alloc | apply Kd.R_drewN | apply Kd.R_drew)); exact HO134.out) (Kd.R_base ho0) hb); have n1_ := Aside0.mk (Kd.R_elder' (by (with_reducible repeat (first | apply Kd.R_alloc | apply Kd.R_drewN | apply Kd.R_drew)); exact HO137.out) (Kd.R_base ho0) hb); have n2_ := Aside0.mk (Kd.R_lower (Kd.R_new' (Kd.R_new' ho0 (Kd.R_lt (by (with_reducible repeat (first | apply Kd.R_alloc | apply Kd.R_drewN | apply Kd.R_drew)); exact HO134.out))) (Kd.R_lt (by (with_reducible repeat (first | apply Kd.R_alloc | apply Kd.R_drewN | apply Kd.R_drew)); exact HO137.out))) (below_size (by repeat (first | (with_reducible first | exact HB.out | apply below_alloc | apply pw_below_drewN | apply below_drew1) | exact HB.out)))); have n3_ := Aside0.mk (below_step (by repeat (first | (with_reducible first | exact HB.out | apply below_alloc | apply pw_below_drewN | apply below_drew1) | exact HB.out)) hb); clear HO134; clear HO137; clear HB; have HO134 := n0_; have HO137 := n1_; have HO140 := n2_; have HB := n3_; clear n0_ n1_ n2_ n3_; (try clear hb); (try clear hb2); (try clear hk); (try clear hi); (try clear ho0); obtain ⟨Ao12, co12, eo12⟩ := Kd.R_slice HO140.out; subst eo12) | ((with_reducible refine gate_builtin (b := .append) (xs := #[.tmp 5, .tmp 6]) rfl ?_); at_builtin; refine Kd.R_append_rows k25 (w0 := w) w.heap.size rfl (.tmp 5) (.tmp 6) 22 25 (.agg #[(.int .i64 0), (.int .i64 0)]) 16 rfl Tryd.underlying22 info25 rfl (by decide) (by omega) v136 y135 t138 _ _ _ (fun k_ => some k_ ≠ (.slice Ao9 t132.length co9 : Value).ownBlock ∧ some k_ ≠ (.slice Ao12 t138.length co12 : Value).ownBlock) (fun _ => False) rfl rfl ?aO ?aR (fun _ _ h => h) (fun _ h => h.elim) ?aF ?aB ?aS ?aL ?_; (case aR => repeat (first | exact (Kd.R_reads' HO140.out).2.2 | (with_reducible refine Kd.C_alloc ?_ _) | (with_reducible refine Kd.C_drewN ?_ _) | (with_reducible refine Kd.C_drew ?_))); (case aB => exact (by repeat (first | (with_reducible first | exact HB.out | apply below_alloc | apply pw_below_drewN | apply below_drew1) | exact HB.out))); (case aF => exact (fun k_ hk => ⟨Kd.fresh' (Kd.R_lt (by (with_reducible repeat (first | apply Kd.R_alloc | apply Kd.R_drewN | apply Kd.R_drew)); exact HO134.out)) k_ hk, Kd.fresh' (Kd.R_lt (by (with_reducible repeat (first | apply Kd.R_alloc | apply Kd.R_drewN | apply Kd.R_drew)); exact HO140.out)) k_ hk⟩)); (case aO => exact (by (with_reducible repeat (first | apply Kd.R_alloc | apply Kd.R_drewN | apply Kd.R_drew)); exact HO137.out)); (case aS => exact (below_size (by repeat (first | (with_reducible first | exact HB.out | apply below_alloc | apply pw_below_drewN | apply below_drew1) | exact HB.out)))); (case aL => have := LMc5.out; omega); intro v142 w11 ho hb hg hat; rw [← Ny141.out] at ho; have n0_ := Aside0.mk (Kd.R_after (ok := (fun k_ => some k_ ≠ (.slice Ao12 t138.length co12 : Value).ownBlock)) (by (with_reducible repeat (first | apply Kd.R_alloc | apply Kd.R_drewN | apply Kd.R_drew)); exact Kd.R_mono HO134.out (fun _ hk => ⟨hk.2, hk.1.2⟩)) hg hat); have n1_ := Aside0.mk (Kd.R_after (ok := (fun k_ => some k_ ≠ (.slice Ao9 t132.length co9 : Value).ownBlock)) (by (with_reducible repeat (first | apply Kd.R_alloc | apply Kd.R_drewN | apply Kd.R_drew)); exact Kd.R_mono HO140.out (fun _ hk => ⟨hk.1.2, hk.2⟩)) hg hat); have n2_ := Aside0.mk (hb); have n3_ := Aside0.mk (ho); clear HO134; clear HO140; clear HB; clear HO137; have HO134 := n0_; have HO140 := n1_; have HB := n2_; have HO143 := n3_; clear n0_ n1_ n2_ n3_; clear ho hb hg hat)))
   go_loopg [2] k (fun kq v2 w' => ∃ (x2_1 : Int), v2 = .int .i64 x2_1 ∧ Aside0 (tenorlaw0_NamesNumbers.l0 kq y141 x2_1 = some r) ∧ Aside0 (kq ≤ k) ∧ Aside0 (Kd.R k25 25 w' w.heap.size (fun _ => True) v142 y141) ∧ Aside0 (Below w.heap.size w w'))
   case atStart => exact ⟨(0), (by first | rfl | (simp; done) | (simp [*]; done)), H', ⟨Nat.le_refl _⟩, ⟨by (with_reducible repeat (first | apply Kd.R_alloc | apply Kd.R_drewN | apply Kd.R_drew)); exact Kd.R_mono HO143.out (fun _ hk => trivial)⟩, ⟨by repeat (first | (with_reducible first | exact HB.out | apply below_alloc | apply pw_below_drewN | apply below_drew1) | exact HB.out)⟩⟩
   case round =>
    clear H'
    obtain ⟨x2_1, rfl, HA, HK1, HO_1, HB⟩ := hrel
    cases gk with
    | zero => exact absurd HA.out (by simp [tenorlaw0_NamesNumbers.l0])
    | succ k1 =>
     have H := HA.out;clear HA
     simp only [tenorlaw0_NamesNumbers.l0] at H
     by_cases c13 : x2_1 < (y141.length : Int)
     ·
      rw [if_pos c13] at H
      have c13b0 : decide (x2_1 < (y141.length : Int)) = true := decide_eq_true c13
      clear c13
      by_cases c14 : 0 ≤ x2_1
      ·
       rw [if_pos c14] at H
       have c14b0 : decide (0 ≤ x2_1) = true := decide_eq_true c14
       clear c14
       by_cases c15 : ((rd_T25 y141 x2_1).f0) = ((rd_T25 y141 x2_1).f1)
       ·
        rw [if_pos c15] at H
        have c15b0 : (((rd_T25 y141 x2_1).f0) == ((rd_T25 y141 x2_1).f1)) = true := beq_iff_eq.mpr c15
        have c15b1 : (((rd_T25 y141 x2_1).f0) != ((rd_T25 y141 x2_1).f1)) = false := bne_eq_false_iff_eq.mpr c15
        clear c15;have H' := Aside0.mk H;clear H
        obtain ⟨Ao16, co16, eo16⟩ := Kd.R_slice HO_1.out
        subst eo16
        have p144 : 0 ≤ (x2_1 : Int) := of_decide_eq_true (by first | (with_reducible assumption) | assumption)
        have q144 : x2_1 < (y141.length : Int) := of_decide_eq_true (by first | (with_reducible assumption) | assumption)
        obtain ⟨ad144, e144, hx144_0, hx144_1⟩ := at_T25 (Kd.R_reads' HO_1.out).2.2 x2_1 p144 q144
        cases e144
        replace p144 := eq_true p144;replace q144 := eq_true q144
        have p145 : 0 ≤ (x2_1 : Int) := of_decide_eq_true (by first | (with_reducible assumption) | assumption)
        have q145 : x2_1 < (y141.length : Int) := of_decide_eq_true (by first | (with_reducible assumption) | assumption)
        obtain ⟨ad145, e145, hx145_0, hx145_1⟩ := at_T25 (Kd.R_reads' HO_1.out).2.2 x2_1 p145 q145
        obtain rfl : ad144 = ad145 := (by injection e145)
        replace p145 := eq_true p145;replace q145 := eq_true q145
        go_wp2
        repeat (go_quiet (fail); try go_wp2)
        go_roundg k1
        case measure => have := HK1.out; omega
        case rel => exact ⟨(wrap64 (x2_1 + 1)), (by first | rfl | (simp; done) | (simp [*]; done)), H', ⟨by have := HK1.out; omega⟩, ⟨by (with_reducible repeat (first | apply Kd.R_alloc | apply Kd.R_drewN | apply Kd.R_drew)); exact HO_1.out⟩, ⟨by repeat (first | (with_reducible first | exact HB.out | apply below_alloc | apply pw_below_drewN | apply below_drew1) | exact HB.out)⟩⟩
       ·
        rw [if_neg c15] at H
        have c15b0 : (((rd_T25 y141 x2_1).f0) == ((rd_T25 y141 x2_1).f1)) = false := beq_eq_false_iff_ne.mpr c15
        have c15b1 : (((rd_T25 y141 x2_1).f0) != ((rd_T25 y141 x2_1).f1)) = true := bne_iff_ne.mpr c15
        obtain rfl := Option.some.inj H
        obtain ⟨Ao17, co17, eo17⟩ := Kd.R_slice HO_1.out
        subst eo17
        have p144 : 0 ≤ (x2_1 : Int) := of_decide_eq_true (by first | (with_reducible assumption) | assumption)
        have q144 : x2_1 < (y141.length : Int) := of_decide_eq_true (by first | (with_reducible assumption) | assumption)
        obtain ⟨ad144, e144, hx144_0, hx144_1⟩ := at_T25 (Kd.R_reads' HO_1.out).2.2 x2_1 p144 q144
        cases e144
        replace p144 := eq_true p144;replace q144 := eq_true q144
        have p145 : 0 ≤ (x2_1 : Int) := of_decide_eq_true (by first | (with_reducible assumption) | assumption)
        have q145 : x2_1 < (y141.length : Int) := of_decide_eq_true (by first | (with_reducible assumption) | assumption)
        obtain ⟨ad145, e145, hx145_0, hx145_1⟩ := at_T25 (Kd.R_reads' HO_1.out).2.2 x2_1 p145 q145
        obtain rfl : ad144 = ad145 := (by injection e145)
        replace p145 := eq_true p145;replace q145 := eq_true q145
        go_wp2
        repeat (go_quiet (fail); try go_wp2)
        go_ret
        exact ⟨by first | rfl | (simp [errW_none, errW_some] <;> rfl) | (simp [*, errW_none, errW_some] <;> rfl), by repeat (first | (with_reducible first | exact HB.out | apply below_alloc | apply pw_below_drewN | apply below_drew1) | exact HB.out)⟩
      ·
       rw [if_neg c14] at H
       exact absurd H (by simp)
     ·
      rw [if_neg c13] at H
      have c13b0 : decide (x2_1 < (y141.length : Int)) = false := decide_eq_false c13
      clear c13
      obtain rfl := Option.some.inj H
      obtain ⟨Ao18, co18, eo18⟩ := Kd.R_slice HO_1.out
      subst eo18
      go_wp2_with (first | (go_at_call 7; (with_reducible refine (Go.Proofs.YtkhpkmlhjibojaaDoor.H.error_210 _ (Go.Proofs.YtkhpkmlhjibojaaDoor.H.tab_on HTA.out (by repeat (first | (with_reducible first | exact HB.out | apply below_alloc | apply pw_below_drewN | apply below_drew1) | exact HB.out)))).mono ?_); rintro e w7 ⟨rfl, hb⟩; have n1_ := Aside0.mk (below_step (by repeat (first | (with_reducible first | exact HB.out | apply below_alloc | apply pw_below_drewN | apply below_drew1) | exact HB.out)) hb); clear HB; have HB := n1_; clear n1_; (try clear hb)) | (go_at_call 7; (with_reducible refine (Go.Proofs.YtkhpkmlhjibojaaDoor.H.error_0 _).mono ?_); rintro e w8 ⟨rfl, ⟨n_, rfl⟩⟩) | (go_at_call 8; (with_reducible refine (Go.Proofs.YtkhpkmlhjibojaaDoor.H.bits_one _).mono ?_); rintro e w8 ⟨rfl, ⟨n_, rfl⟩⟩) | (go_at_call 9; (with_reducible refine (Go.Proofs.YtkhpkmlhjibojaaDoor.H.float_neg fx hfx.out _).mono ?_); rintro e w8 ⟨rfl, ⟨n_, rfl⟩⟩) | (go_at_call 10; (with_reducible refine (Go.Proofs.YtkhpkmlhjibojaaDoor.H.bits32_one _).mono ?_); rintro e w8 ⟨rfl, ⟨n_, rfl⟩⟩) | (go_at_call 11; (with_reducible refine (Go.Proofs.YtkhpkmlhjibojaaDoor.H.float32_neg gx hgx.out _).mono ?_); rintro e w8 ⟨rfl, ⟨n_, rfl⟩⟩))
      go_ret
      exact ⟨by first | rfl | (simp [errW_none, errW_some] <;> rfl) | (simp [*, errW_none, errW_some] <;> rfl), by repeat (first | (with_reducible first | exact HB.out | apply below_alloc | apply pw_below_drewN | apply below_drew1) | exact HB.out)⟩
  ·
   rw [if_neg c5] at H
   exact absurd H (by simp)
 ·
  rw [if_neg c3] at H
  exact absurd H (by simp)
end Go.Proofs.YtkhpkmlhjibojaaDoor.Q
namespace Go.Proofs.YtkhpkmlhjibojaaDoor.D
theorem tab_same : (Rows.laid_internal_strconv_uint64pow10 : DataW Unit) = Lib.tabData .u64 Lib.pow10Tab := by kernel_rfl
theorem tab_of_laid {x y : String × DataW Unit} {rest : List (String × DataW Unit)} {W : World} (h : laidMet Tryd.prog (x :: y :: ("internal/strconv.uint64pow10", Rows.laid_internal_strconv_uint64pow10) :: rest) W) :
  Lib.TabBelow Tryd.prog W.heap.size W "internal/strconv.uint64pow10" .u64 Lib.pow10Tab := by
 have h2 := laidMet.tail (laidMet.tail h)
 rw [tab_same] at h2
 exact Lib.tabBelow_of_tabIs (Lib.tabIs_of_head (g := 1) (t := 47) (e := 28) (n := 20) (by kernel_rfl) (by kernel_rfl) (by kernel_rfl) (by kernel_rfl) (by kernel_rfl) (by kernel_rfl) h2)
end Go.Proofs.YtkhpkmlhjibojaaDoor.D
