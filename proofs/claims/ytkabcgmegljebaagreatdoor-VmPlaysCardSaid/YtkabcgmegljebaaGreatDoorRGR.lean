/- Contracts and facts of functions of the program, joined in one text. -/
import Derived.Test.YtkabcgmegljebaaGreatDoorRGA
import Derived.Test.YtkabcgmegljebaaGreatDoorRGQ
import Derived.BigRegion
import Derived.Test.YtkabcgmegljebaaGreatDoorRGJ
import Derived.Test.YtkabcgmegljebaaGreatDoorRGP
import Derived.Test.YtkabcgmegljebaaGreatDoorRGN
set_option maxHeartbeats 8000000
set_option maxRecDepth 100000
set_option linter.unusedVariables false
set_option linter.unusedSimpArgs false
namespace Go.Proofs.YtkabcgmegljebaaGreatDoor.D
open Go.RowKit Go.Proofs.YtkabcgmegljebaaGreatDoorW.PrintWords Go.Proofs.YtkabcgmegljebaaGreatDoorW.PrintLast Go.Proofs.YtkabcgmegljebaaGreatDoorW.PrintMore
open Go.Proofs.YtkabcgmegljebaaGreatDoor.Q Go.Proofs.YtkabcgmegljebaaGreatDoor.H
def turnF (o : S37) (fl : List S48) (m : Nat) : List S48 × Int :=
 if o.f0 = 4 then (fl.take m ++ (fl.drop m).map ngF, 0)
 else if o.f0 = 5 then (if (fl.drop m).all (fun f => numB (mulN o.f1 f.f1)) = true then (fl.take m ++ (fl.drop m).map (scF o.f1), 0) else ([], 91))
 else if o.f0 = 6 then (fl.take m ++ (fl.drop m).filter (inW o.f3 o.f4), 0)
 else if (pushes o.f8 fl (pairs (fl.drop m) 1 o.f7.toNat)).2 = 0 then ((pushes o.f8 fl (pairs (fl.drop m) 1 o.f7.toNat)).1, 0) else ([], (pushes o.f8 fl (pairs (fl.drop m) 1 o.f7.toNat)).2)
theorem bit_drop {l : List S48} (h : Bit l) (m : Nat) : Bit (l.drop m) := fun f hf => h f (List.mem_of_mem_drop hf)
theorem num_drop {l : List S48} (h : ∀ f ∈ l, numB f.f1 = true) (m : Nat) : ∀ f ∈ l.drop m, numB f.f1 = true := fun f hf => h f (List.mem_of_mem_drop hf)
section
variable {w : World} {base m c : Nat} {G : Nat → Prop} {A : Option Addr} {fl : List S48}
theorem cut_at (hs : Sl k79 79 w base G A c (fl.map ofF)) (hm : m ≤ fl.length) : Kd.C k79 w A m ((fl.take m).map ofF) := by
 have hc : fl.length ≤ c := by have h := hs.le; rwa [List.length_map] at h
 have h := (hs.head m c (by rw [List.length_map]; exact hm) (by omega) (Nat.le_refl _)).C
 rwa [← List.map_take, List.length_map, List.length_take, Nat.min_eq_left hm] at h
theorem xgE (hs : Sl k79 79 w base G A c (fl.map ofF)) (hm : m ≤ fl.length) : Kd.C k79 w (if c = m then A else A.map (·.add (m * 3))) (fl.drop m).length ((fl.drop m).map ofF) := by
 have hc : fl.length ≤ c := by have h := hs.le; rwa [List.length_map] at h
 have h := Kd.C_drop hs.C (by rw [List.length_map]; exact hm) (show (fl.map ofF).length ≤ c by rw [List.length_map]; exact hc)
 rw [← List.map_drop] at h
 rw [List.length_map] at h
 exact h
end
theorem turned4 (o1 o2 : Nat) (o3 o4 o5 o6 o7 o8 : Int) (fl : List S48) (m : Nat) (A : Option Addr) (c : Nat) (w : World) {base : Nat} {G : Nat → Prop} (hs : Sl k79 79 w base G A c (fl.map ofF)) (hm : m ≤ fl.length) (hl : fl.length ≤ 4096) (hb : Bit fl) (hn : ∀ f ∈ fl, numB f.f1 = true) :
  Calls Tryz.prog 65 #[.slice A fl.length c, .int .i64 (m : Int), (.agg #[.int .i64 4, .int .i64 0, .int .i64 0, .int .u64 (o1 : Int), .int .u64 (o2 : Int), .int .i64 o3, .int .i64 o4, .int .i64 o5, .int .i64 o6, .int .i64 o7, .int .i64 o8])] w fun e w' => ∃ A' c', e = .returned (.tuple #[.slice A' (turnF ⟨4, o1, o2, o3, o4, o5, o6, o7, o8⟩ fl m).1.length c', .int .i64 (turnF ⟨4, o1, o2, o3, o4, o5, o6, o7, o8⟩ fl m).2]) ∧ Own k79 79 w w' A' c' ((turnF ⟨4, o1, o2, o3, o4, o5, o6, o7, o8⟩ fl m).1.map ofF) ∧ Below w.heap.size w w' := by
 have HC1 : xaA (∀ w', Below w.heap.size w w' → Kd.C k79 w' A m ((fl.take m).map ofF)) := ⟨fun w' hb => Kd.xaQ (cut_at hs hm) hb⟩
 have hcf := fun w' (hb : Below w.heap.size w w') => Kd.xaQ (xgE hs hm) hb
 have hcl : fl.length ≤ c := by have h := hs.le; rwa [List.length_map] at h
 have hmc : m ≤ c := by omega
 have HB : xaA (Below w.heap.size w w) := ⟨Below.refl _ _⟩
 have ht : turnF ⟨4, o1, o2, o3, o4, o5, o6, o7, o8⟩ fl m = (fl.take m ++ (fl.drop m).map ngF, 0) := by unfold turnF; rw [if_pos rfl]
 rw [ht]
 have hgv := fun w' (hb' : Below w.heap.size w w') cc => giveD_c (fl.drop m) _ cc w' (hcf w' hb') (by rw [List.length_drop]; omega) (bit_drop hb m)
 have HTL : xaA (m = (((fl.take m).map ofF)).length) := ⟨by rw [List.length_map, List.length_take, Nat.min_eq_left hm]⟩
 rw [List.length_drop] at hgv
 have hdl : (fl.drop m).length = fl.length - m := List.length_drop
 have HLEN : xaA ((fl.take m ++ (fl.drop m).map ngF).length = fl.length) := ⟨by rw [List.length_append, List.length_take, Nat.min_eq_left hm, List.length_map, List.length_drop]; omega⟩
 have HL := am hl;have HM := am hm;clear hs hb hn ht hcf
 by_cases hcm : c = m
 all_goals
  first | (simp only [if_pos hcm] at hgv) | (simp only [if_neg hcm] at hgv)
  have HGV := am hgv;have HDL := am hdl;clear hgv hdl
  go_enter Tryz.func65, Tryz.ntmps65
  go_upto_region 1 with ((with_reducible refine xaJ (N := 5) rfl ?_); refine bxv 5 #[.int .i64 4, .int .i64 0, .int .i64 0, .int .u64 (o1 : Int), .int .u64 (o2 : Int), .int .i64 o3, .int .i64 o4, .int .i64 o5, .int .i64 o6, .int .i64 o7, .int .i64 o8] 109 ?_; intro t hg w1 hbox hb; have Bt := am hbox; have HBt := HB; replace HB := am (xaC HB.out hb); have HGt := am hg; have HLt := am (xaM hbox); clear hb hbox hg)
  skip
  go_upto_region 3 with ((with_reducible refine xaR (b := .append) (xs := #[.tmp 11, .tmp 14]) rfl ?_); go_loud (refine Sl.app rfl (.tmp 11) (.tmp 14) 28 (.agg #[.int .i64 0, .int .u64 0, .int .i64 0]) 24 rfl Tryz.underlying28 xeF rfl (by decide) (by omega) (xs := ([] : List S79)) (n := 0) rfl rfl rfl (Sl.nil _ _ _ _ _) HB.out (HC1.out _ HB.out) (by have := HL.out; have := HM.out; omega) ?_; intro A1 c1 w2 hs1 hb1 hk1; rw [List.nil_append] at hs1; have HO1 := am hs1; replace HB := am hb1; replace Bt := am (hk1 t _ _ (by decide) Bt.out); clear hs1 hb1 hk1))
  skip
  have ct_ := ce11 Bt
  go_wp2_with (first | (go_at_call 86; go_loud ((with_reducible refine (HGV.out _ HB.out _).mono ?_); rintro z w3 ⟨A3, c3, rfl, hs3, hb3⟩; have hc3 := Sl.C hs3; rw [List.length_map, List.length_map, HDL.out] at hc3; have HS3 := am hc3; clear hc3; replace HO1 := am (HO1.out.below hb3); replace HB := am (xaC HB.out hb3); clear hs3 hb3)) | ((with_reducible refine xaR (b := .append) (xs := #[.tmp 20, .tmp 24]) rfl ?_); go_loud (refine Sl.app rfl (.tmp 20) (.tmp 24) 28 (.agg #[.int .i64 0, .int .u64 0, .int .i64 0]) 24 rfl Tryz.underlying28 xeF rfl (by decide) (by omega) HTL.out rfl rfl HO1.out HB.out HS3.out (by have := HL.out; have := HM.out; omega) ?_; intro A4 c4 w4 hs4 hb4 _; have HO4 := am hs4; have HB4 := am hb4; clear hs4 hb4)))
  go_ret2
  exact ⟨A4, c4, by rw [HLEN.out]; first | done | rfl, by rw [List.map_append]; exact HO4.out, HB4.out⟩
theorem turned5 (o1 o2 : Nat) (o3 o4 o5 o6 o7 o8 : Int) (fl : List S48) (m : Nat) (A : Option Addr) (c : Nat) (w : World) {base : Nat} {G : Nat → Prop} (hs : Sl k79 79 w base G A c (fl.map ofF)) (hm : m ≤ fl.length) (hl : fl.length ≤ 4096) (hb : Bit fl) (hn : ∀ f ∈ fl, numB f.f1 = true) (hx : o1 < 18446744073709551616) (nx : numB o1 = true) :
  Calls Tryz.prog 65 #[.slice A fl.length c, .int .i64 (m : Int), (.agg #[.int .i64 6, .int .i64 0, .int .i64 0, .int .u64 (o1 : Int), .int .u64 (o2 : Int), .int .i64 o3, .int .i64 o4, .int .i64 o5, .int .i64 o6, .int .i64 o7, .int .i64 o8])] w fun e w' => ∃ A' c', e = .returned (.tuple #[.slice A' (turnF ⟨5, o1, o2, o3, o4, o5, o6, o7, o8⟩ fl m).1.length c', .int .i64 (turnF ⟨5, o1, o2, o3, o4, o5, o6, o7, o8⟩ fl m).2]) ∧ Own k79 79 w w' A' c' ((turnF ⟨5, o1, o2, o3, o4, o5, o6, o7, o8⟩ fl m).1.map ofF) ∧ Below w.heap.size w w' := by
 have HC1 : xaA (∀ w', Below w.heap.size w w' → Kd.C k79 w' A m ((fl.take m).map ofF)) := ⟨fun w' hb => Kd.xaQ (cut_at hs hm) hb⟩
 have hcf := fun w' (hb : Below w.heap.size w w') => Kd.xaQ (xgE hs hm) hb
 have hcl : fl.length ≤ c := by have h := hs.le; rwa [List.length_map] at h
 have hmc : m ≤ c := by omega
 have HB : xaA (Below w.heap.size w w) := ⟨Below.refl _ _⟩
 have ht : turnF ⟨5, o1, o2, o3, o4, o5, o6, o7, o8⟩ fl m = if (fl.drop m).all (fun f => numB (mulN o1 f.f1)) = true then (fl.take m ++ (fl.drop m).map (scF o1), 0) else ([], 91) := by unfold turnF; rw [if_neg (show ¬ (5 : Int) = 4 by decide), if_pos rfl]
 rw [ht]
 have hgv := fun w' (hb' : Below w.heap.size w w') cc => scaleD_c o1 (fl.drop m) _ cc w' (hcf w' hb') (by rw [List.length_drop]; omega) (bit_drop hb m) hx nx (num_drop hn m)
 have HTL : xaA (m = (((fl.take m).map ofF)).length) := ⟨by rw [List.length_map, List.length_take, Nat.min_eq_left hm]⟩
 rw [List.length_drop] at hgv
 have hdl : (fl.drop m).length = fl.length - m := List.length_drop
 have HDL := am hdl
 have HLEN : xaA ((fl.take m ++ (fl.drop m).map (scF o1)).length = fl.length) := ⟨by rw [List.length_append, List.length_take, Nat.min_eq_left hm, List.length_map, List.length_drop]; omega⟩
 have HL := am hl;have HM := am hm
 unfold ScR at hgv
 clear hs hb hn ht hcf hdl
 by_cases hall : (fl.drop m).all (fun f => numB (mulN o1 f.f1)) = true
 ·
  rw [if_pos hall]
  simp only [if_pos hall] at hgv
  clear hall
  by_cases hcm : c = m
  all_goals
   first | (simp only [if_pos hcm] at hgv) | (simp only [if_neg hcm] at hgv)
   have HGV := am hgv;clear hgv
   go_enter Tryz.func65, Tryz.ntmps65
   go_upto_region 1 with ((with_reducible refine xaJ (N := 5) rfl ?_); refine bxv 5 #[.int .i64 6, .int .i64 0, .int .i64 0, .int .u64 (o1 : Int), .int .u64 (o2 : Int), .int .i64 o3, .int .i64 o4, .int .i64 o5, .int .i64 o6, .int .i64 o7, .int .i64 o8] 109 ?_; intro t hg w1 hbox hb; have Bt := am hbox; have HBt := HB; replace HB := am (xaC HB.out hb); have HGt := am hg; have HLt := am (xaM hbox); clear hb hbox hg)
   go_upto_region 3 with ((with_reducible refine xaR (b := .append) (xs := #[.tmp 11, .tmp 14]) rfl ?_); go_loud (refine Sl.app rfl (.tmp 11) (.tmp 14) 28 (.agg #[.int .i64 0, .int .u64 0, .int .i64 0]) 24 rfl Tryz.underlying28 xeF rfl (by decide) (by omega) (xs := ([] : List S79)) (n := 0) rfl rfl rfl (Sl.nil _ _ _ _ _) HB.out (HC1.out _ HB.out) (by have := HL.out; have := HM.out; omega) ?_; intro A1 c1 w2 hs1 hb1 hk1; rw [List.nil_append] at hs1; have HO1 := am hs1; replace HB := am hb1; replace Bt := am (hk1 t _ _ (by decide) Bt.out); clear hs1 hb1 hk1))
   obtain ⟨ct_0, ct_1, ct_2, ct_3, ct_4, ct_5, ct_6, ct_7, ct_8, ct_9, ct_10⟩ := ce11 Bt
   go_wp2_with fail
   skip
   refine xcA ?_
   refine xbL (n := 11) (S := fun w' => w'.cell? ⟨t, 3, none⟩ = some (.int .u64 (o1 : Int))) (ds := []) #[false, false, false, false, false, false, false, false, false, false, false] (by kernel_rfl) rfl rfl ct_3 (fun hHeld => ?_)
   replace HB := am (xaK HB.out)
   replace HO1 := am (HO1.out.below (xaK (Below.refl _ _)))
   replace Bt := am (xaP Bt.out)
   clear ct_0 ct_1 ct_2 ct_3 ct_4 ct_5 ct_6 ct_7 ct_8 ct_9 ct_10
   generalize w2.drew = w3 at *
   refine rP 0 ?_
   refine rT 1 ?_
   refine rP 2 ?_
   refine rP 3 ?_
   refine rP 4 ?_
   refine rO 5 (fun K hK => ?_)
   first | refine goes_ Tryz.func87 (by kernel_rfl) rfl #[.int .u64 (o1 : Int), .slice A (fl.length - m) 0] (by rfl) rfl rfl (by (try simp only [List.map_toArray, List.map_cons, List.map_nil]); first | done | rfl) ?_ | refine goes_ Tryz.func87 (by kernel_rfl) rfl #[.int .u64 (o1 : Int), .slice (A.map (fun x => x.add (m * 3))) (fl.length - m) (c - m)] (by rfl) rfl rfl (by (try simp only [List.map_toArray, List.map_cons, List.map_nil]); first | done | rfl) ?_
   with_reducible refine (HGV.out _ HB.out _).mono ?_
   rintro z w4 ⟨A3, c3, r, er, rfl, ⟨rfl, rfl⟩, hs3, hb3⟩
   refine ⟨_, rfl, ?_⟩
   have hc3 := Sl.C hs3
   rw [List.length_map, List.length_map, HDL.out] at hc3
   have HS3 := am hc3;clear hc3
   replace HO1 := am (HO1.out.below hb3)
   replace HB := am (xaC HB.out hb3)
   replace Bt := am (xaD Bt.out hb3)
   clear hs3 hb3 hHeld
   refine hK.out _ _ ((xaB Bt.out 3).trans rfl) (fun hHeld => ?_)
   clear hK K
   refine rN ?_
   refine rP 6 ?_
   refine rP 7 ?_
   refine rP 8 ?_
   refine rP 9 ?_
   refine rP 10 ?_
   clear hHeld
   refine rD ?_
   skip
   go_wp2_with ((with_reducible refine xaR (b := .append) (xs := #[.tmp 40, .tmp 41]) rfl ?_); go_loud (refine Sl.app rfl (.tmp 40) (.tmp 41) 28 (.agg #[.int .i64 0, .int .u64 0, .int .i64 0]) 24 rfl Tryz.underlying28 xeF rfl (by decide) (by omega) HTL.out rfl rfl HO1.out HB.out HS3.out (by have := HL.out; have := HM.out; omega) ?_; intro A4 c4 w4 hs4 hb4 _; have HO4 := am hs4; have HB4 := am hb4; clear hs4 hb4))
   go_ret2
   exact ⟨A4, c4, by rw [HLEN.out]; first | done | rfl, by rw [List.map_append]; exact HO4.out, HB4.out⟩
 ·
  rw [if_neg hall]
  simp only [if_neg hall] at hgv
  clear hall
  by_cases hcm : c = m
  all_goals
   first | (simp only [if_pos hcm] at hgv) | (simp only [if_neg hcm] at hgv)
   have HGV := am hgv;clear hgv
   go_enter Tryz.func65, Tryz.ntmps65
   go_upto_region 1 with ((with_reducible refine xaJ (N := 5) rfl ?_); refine bxv 5 #[.int .i64 6, .int .i64 0, .int .i64 0, .int .u64 (o1 : Int), .int .u64 (o2 : Int), .int .i64 o3, .int .i64 o4, .int .i64 o5, .int .i64 o6, .int .i64 o7, .int .i64 o8] 109 ?_; intro t hg w1 hbox hb; have Bt := am hbox; have HBt := HB; replace HB := am (xaC HB.out hb); have HGt := am hg; have HLt := am (xaM hbox); clear hb hbox hg)
   go_upto_region 3 with ((with_reducible refine xaR (b := .append) (xs := #[.tmp 11, .tmp 14]) rfl ?_); go_loud (refine Sl.app rfl (.tmp 11) (.tmp 14) 28 (.agg #[.int .i64 0, .int .u64 0, .int .i64 0]) 24 rfl Tryz.underlying28 xeF rfl (by decide) (by omega) (xs := ([] : List S79)) (n := 0) rfl rfl rfl (Sl.nil _ _ _ _ _) HB.out (HC1.out _ HB.out) (by have := HL.out; have := HM.out; omega) ?_; intro A1 c1 w2 hs1 hb1 hk1; rw [List.nil_append] at hs1; have HO1 := am hs1; replace HB := am hb1; replace Bt := am (hk1 t _ _ (by decide) Bt.out); clear hs1 hb1 hk1))
   obtain ⟨ct_0, ct_1, ct_2, ct_3, ct_4, ct_5, ct_6, ct_7, ct_8, ct_9, ct_10⟩ := ce11 Bt
   go_wp2_with fail
   refine xcA ?_
   refine xbL (n := 11) (S := fun w' => w'.cell? ⟨t, 3, none⟩ = some (.int .u64 (o1 : Int))) (ds := []) #[false, false, false, false, false, false, false, false, false, false, false] (by kernel_rfl) rfl rfl ct_3 (fun hHeld => ?_)
   replace HB := am (xaK HB.out)
   replace HO1 := am (HO1.out.below (xaK (Below.refl _ _)))
   replace Bt := am (xaP Bt.out)
   clear ct_0 ct_1 ct_2 ct_3 ct_4 ct_5 ct_6 ct_7 ct_8 ct_9 ct_10
   generalize w2.drew = w3 at *
   refine rP 0 ?_
   refine rT 1 ?_
   refine rP 2 ?_
   refine rP 3 ?_
   refine rP 4 ?_
   refine rO 5 (fun K hK => ?_)
   first | refine goes_ Tryz.func87 (by kernel_rfl) rfl #[.int .u64 (o1 : Int), .slice A (fl.length - m) 0] (by rfl) rfl rfl (by (try simp only [List.map_toArray, List.map_cons, List.map_nil]); first | done | rfl) ?_ | refine goes_ Tryz.func87 (by kernel_rfl) rfl #[.int .u64 (o1 : Int), .slice (A.map (fun x => x.add (m * 3))) (fl.length - m) (c - m)] (by rfl) rfl rfl (by (try simp only [List.map_toArray, List.map_cons, List.map_nil]); first | done | rfl) ?_
   with_reducible refine (HGV.out _ HB.out _).mono ?_
   rintro z w4 ⟨A3, c3, r, er, rfl, ⟨rfl, rfl⟩, hs3, hb3⟩
   refine ⟨_, rfl, ?_⟩
   have HS3 := am (Sl.C hs3)
   replace HO1 := am (HO1.out.below hb3)
   replace HB := am (xaC HB.out hb3)
   replace Bt := am (xaD Bt.out hb3)
   clear hs3 hb3 hHeld
   refine hK.out _ _ ((xaB Bt.out 3).trans rfl) (fun hHeld => ?_)
   clear hK K
   refine rN ?_
   refine rP 6 ?_
   refine rP 7 ?_
   refine rP 8 ?_
   refine rP 9 ?_
   refine rP 10 ?_
   clear hHeld
   refine rD ?_
   go_wp2_with fail
   go_ret2
   exact ⟨none, 0, rfl, Sl.nil _ _ _ _ _, HB.out⟩
theorem turned6 (o1 o2 : Nat) (o3 o4 o5 o6 o7 o8 : Int) (fl : List S48) (m : Nat) (A : Option Addr) (c : Nat) (w : World) {base : Nat} {G : Nat → Prop} (hs : Sl k79 79 w base G A c (fl.map ofF)) (hm : m ≤ fl.length) (hl : fl.length ≤ 4096) (hb : Bit fl) (hn : ∀ f ∈ fl, numB f.f1 = true) :
  Calls Tryz.prog 65 #[.slice A fl.length c, .int .i64 (m : Int), (.agg #[.int .i64 7, .int .i64 0, .int .i64 0, .int .u64 (o1 : Int), .int .u64 (o2 : Int), .int .i64 o3, .int .i64 o4, .int .i64 o5, .int .i64 o6, .int .i64 o7, .int .i64 o8])] w fun e w' => ∃ A' c', e = .returned (.tuple #[.slice A' (turnF ⟨6, o1, o2, o3, o4, o5, o6, o7, o8⟩ fl m).1.length c', .int .i64 (turnF ⟨6, o1, o2, o3, o4, o5, o6, o7, o8⟩ fl m).2]) ∧ Own k79 79 w w' A' c' ((turnF ⟨6, o1, o2, o3, o4, o5, o6, o7, o8⟩ fl m).1.map ofF) ∧ Below w.heap.size w w' := by
 have HC1 : xaA (∀ w', Below w.heap.size w w' → Kd.C k79 w' A m ((fl.take m).map ofF)) := ⟨fun w' hb => Kd.xaQ (cut_at hs hm) hb⟩
 have hcf := fun w' (hb : Below w.heap.size w w') => Kd.xaQ (xgE hs hm) hb
 have hcl : fl.length ≤ c := by have h := hs.le; rwa [List.length_map] at h
 have hmc : m ≤ c := by omega
 have HB : xaA (Below w.heap.size w w) := ⟨Below.refl _ _⟩
 have ht : turnF ⟨6, o1, o2, o3, o4, o5, o6, o7, o8⟩ fl m = (fl.take m ++ (fl.drop m).filter (inW o3 o4), 0) := by unfold turnF; rw [if_neg (show ¬ (6 : Int) = 4 by decide), if_neg (show ¬ (6 : Int) = 5 by decide), if_pos rfl]
 rw [ht]
 have hgv := fun w' (hb' : Below w.heap.size w w') cc => windowD_c o3 o4 (fl.drop m) _ cc w' (hcf w' hb') (by rw [List.length_drop]; omega)
 have HTL : xaA (m = (((fl.take m).map ofF)).length) := ⟨by rw [List.length_map, List.length_take, Nat.min_eq_left hm]⟩
 rw [List.length_drop] at hgv
 have hfl : ((fl.drop m).filter (inW o3 o4)).length ≤ fl.length - m := by have h := List.length_filter_le (inW o3 o4) (fl.drop m); rwa [List.length_drop] at h
 have HFL := am hfl
 have HLEN : xaA ((fl.take m ++ (fl.drop m).filter (inW o3 o4)).length = m + ((fl.drop m).filter (inW o3 o4)).length) := ⟨by rw [List.length_append, List.length_take, Nat.min_eq_left hm]⟩
 have HL := am hl;have HM := am hm;clear hs hb hn ht hcf hfl
 generalize (fl.drop m).filter (inW o3 o4) = fr at *
 by_cases hcm : c = m
 all_goals
  first | (simp only [if_pos hcm] at hgv) | (simp only [if_neg hcm] at hgv)
  have HGV := am hgv;clear hgv
  go_enter Tryz.func65, Tryz.ntmps65
  go_upto_region 1 with ((with_reducible refine xaJ (N := 5) rfl ?_); refine bxv 5 #[.int .i64 7, .int .i64 0, .int .i64 0, .int .u64 (o1 : Int), .int .u64 (o2 : Int), .int .i64 o3, .int .i64 o4, .int .i64 o5, .int .i64 o6, .int .i64 o7, .int .i64 o8] 109 ?_; intro t hg w1 hbox hb; have Bt := am hbox; have HBt := HB; replace HB := am (xaC HB.out hb); have HGt := am hg; have HLt := am (xaM hbox); clear hb hbox hg)
  go_upto_region 3 with ((with_reducible refine xaR (b := .append) (xs := #[.tmp 11, .tmp 14]) rfl ?_); go_loud (refine Sl.app rfl (.tmp 11) (.tmp 14) 28 (.agg #[.int .i64 0, .int .u64 0, .int .i64 0]) 24 rfl Tryz.underlying28 xeF rfl (by decide) (by omega) (xs := ([] : List S79)) (n := 0) rfl rfl rfl (Sl.nil _ _ _ _ _) HB.out (HC1.out _ HB.out) (by have := HL.out; have := HM.out; omega) ?_; intro A1 c1 w2 hs1 hb1 hk1; rw [List.nil_append] at hs1; have HO1 := am hs1; replace HB := am hb1; replace Bt := am (hk1 t _ _ (by decide) Bt.out); clear hs1 hb1 hk1))
  obtain ⟨ct_0, ct_1, ct_2, ct_3, ct_4, ct_5, ct_6, ct_7, ct_8, ct_9, ct_10⟩ := ce11 Bt
  go_wp2_with fail
  skip
  refine xbL (n := 12) (S := fun w' => w'.cell? ⟨t, 5, none⟩ = some (.int .i64 o3) ∧ w'.cell? ⟨t, 6, none⟩ = some (.int .i64 o4)) (ds := [8, 9]) #[false, false, false, false, false, false, false, false, false, false, false, false] (by kernel_rfl) rfl rfl ⟨ct_5, ct_6⟩ (fun hHeld => ?_)
  replace HB := am (xaK HB.out)
  replace HO1 := am (HO1.out.below (xaK (Below.refl _ _)))
  clear ct_0 ct_1 ct_2 ct_3 ct_4 ct_5 ct_6 ct_7 ct_8 ct_9 ct_10 Bt
  generalize w2.drew = w3 at *
  refine rP 0 ?_
  refine rP 1 ?_
  refine rP 2 ?_
  refine rP 3 ?_
  refine rP 4 ?_
  refine rT 5 ?_
  refine rP 6 ?_
  refine rT 7 ?_
  refine rL 8 (fun K hK => ?_)
  first | refine goes_ Tryz.func88 (by kernel_rfl) rfl #[.slice A (fl.length - m) 0, .int .i64 o3, .int .i64 o4] (by rfl) rfl rfl (by (try simp only [List.map_toArray, List.map_cons, List.map_nil]); first | done | rfl) ?_ | refine goes_ Tryz.func88 (by kernel_rfl) rfl #[.slice (A.map (fun x => x.add (m * 3))) (fl.length - m) (c - m), .int .i64 o3, .int .i64 o4] (by rfl) rfl rfl (by (try simp only [List.map_toArray, List.map_cons, List.map_nil]); first | done | rfl) ?_
  with_reducible refine (HGV.out _ HB.out _).mono ?_
  rintro z w4 ⟨A3, c3, rfl, hs3, hb3⟩
  refine ⟨_, rfl, ?_⟩
  have hc3 := Sl.C hs3
  rw [List.length_map] at hc3
  have HS3 := am hc3
  replace HO1 := am (HO1.out.below hb3)
  replace HB := am (xaC HB.out hb3)
  clear hs3 hb3 hHeld hc3
  refine hK.out _ _ ?_
  clear hK K
  refine rN ?_
  refine rL 9 (fun K hK => ?_)
  refine Sl.app_s (by rfl) (.tmp 45) (.tmp 53) 28 (.agg #[.int .i64 0, .int .u64 0, .int .i64 0]) 24 rfl Tryz.underlying28 xeF rfl (by decide) (by omega) HTL.out rfl rfl HO1.out HB.out HS3.out (by have := HL.out; have := HM.out; have := HFL.out; omega) ?_
  intro A4 c4 w5 hs4 hb4 _
  have HO4 := am hs4;have HB4 := am hb4
  refine hK.out _ _ ?_
  clear hK K hs4 hb4
  simp only [List.getElem_toArray, List.getElem_cons_succ, List.getElem_cons_zero]
  refine rN ?_
  refine rP 10 ?_
  refine rP 11 ?_
  refine rD ?_
  skip
  go_wp2_with fail
  go_ret2
  exact ⟨A4, c4, by first | rfl | (rw [HLEN.out]; rfl), by first | (rw [List.map_append]; exact HO4.out) | (rw [List.map_append, ← List.map_take]; exact HO4.out) | (rw [List.map_append, List.map_take]; exact HO4.out), HB4.out⟩
theorem turned7 (o1 o2 : Nat) (o3 o4 o5 o6 o7 o8 : Int) (fl : List S48) (m : Nat) (A : Option Addr) (c : Nat) (w : World) {base : Nat} {G : Nat → Prop} (hs : Sl k79 79 w base G A c (fl.map ofF)) (hm : m ≤ fl.length) (hl : fl.length ≤ 4096) (hb : Bit fl) (hn : ∀ f ∈ fl, numB f.f1 = true) (hN : 1 ≤ o7 ∧ o7 ≤ 4096) (hmo : 0 ≤ o8 ∧ o8 ≤ 1200) :
  Calls Tryz.prog 65 #[.slice A fl.length c, .int .i64 (m : Int), (.agg #[.int .i64 8, .int .i64 0, .int .i64 0, .int .u64 (o1 : Int), .int .u64 (o2 : Int), .int .i64 o3, .int .i64 o4, .int .i64 o5, .int .i64 o6, .int .i64 o7, .int .i64 o8])] w fun e w' => ∃ A' c', e = .returned (.tuple #[.slice A' (turnF ⟨7, o1, o2, o3, o4, o5, o6, o7, o8⟩ fl m).1.length c', .int .i64 (turnF ⟨7, o1, o2, o3, o4, o5, o6, o7, o8⟩ fl m).2]) ∧ Own k79 79 w w' A' c' ((turnF ⟨7, o1, o2, o3, o4, o5, o6, o7, o8⟩ fl m).1.map ofF) ∧ Below w.heap.size w w' := by
 have HC1 : xaA (∀ w', Below w.heap.size w w' → Kd.C k79 w' A m ((fl.take m).map ofF)) := ⟨fun w' hb => Kd.xaQ (cut_at hs hm) hb⟩
 have hcf := fun w' (hb : Below w.heap.size w w') => Kd.xaQ (xgE hs hm) hb
 have hcl : fl.length ≤ c := by have h := hs.le; rwa [List.length_map] at h
 have hmc : m ≤ c := by omega
 have HB : xaA (Below w.heap.size w w) := ⟨Below.refl _ _⟩
 have ht : turnF ⟨7, o1, o2, o3, o4, o5, o6, o7, o8⟩ fl m = if (pushes o8 fl (pairs (fl.drop m) 1 o7.toNat)).2 = 0 then ((pushes o8 fl (pairs (fl.drop m) 1 o7.toNat)).1, 0) else ([], (pushes o8 fl (pairs (fl.drop m) 1 o7.toNat)).2) := by unfold turnF; rw [if_neg (show ¬ (7 : Int) = 4 by decide), if_neg (show ¬ (7 : Int) = 5 by decide), if_neg (show ¬ (7 : Int) = 6 by decide)]
 rw [ht]
 have hag := fun w' A' c' (hs' : Own k79 79 w w' A' c' (fl.map ofF)) (hB' : Below w.heap.size w w') => again_c o8 o7.toNat m fl A' c' w w' hs' hB' hm hl (by omega) (by omega) hb hn
 rw [show ((o7.toNat : Nat) : Int) = o7 by omega] at hag
 have HTL : xaA (m = (((fl.take m).map ofF)).length) := ⟨by rw [List.length_map, List.length_take, Nat.min_eq_left hm]⟩
 have hall : (fl.take m).map ofF ++ (fl.drop m).map ofF = fl.map ofF := by rw [← List.map_append, List.take_append_drop]
 have HALL := am hall;have HAG := am hag
 rw [List.length_drop] at hcf
 have HL := am hl;have HM := am hm
 generalize pushes o8 fl (pairs (fl.drop m) 1 o7.toNat) = P at *
 obtain ⟨R, hR⟩ : ∃ R, R = (if P.2 = 0 then (P.1, (0 : Int)) else ([], P.2)) := ⟨_, rfl⟩
 have hR1 : ∀ (r : List S48) (er : Int), er = P.2 → (er = 0 → r = P.1) → (er ≠ 0 → r = []) → R = (r, er) := fun r er h1 h2 h3 => by
  rw [hR]
  by_cases h : P.2 = 0
  ·
   rw [if_pos h, h2 (h1.trans h), h1, h]
  ·
   rw [if_neg h, h3 (by rw [h1]; exact h), h1]
 rw [← hR]
 have HR1 := am hR1;clear hs hb hn ht hag hall hR hR1
 by_cases hcm : c = m
 all_goals
  first | (simp only [if_pos hcm] at hcf) | (simp only [if_neg hcm] at hcf)
  have HCF := am hcf;clear hcf
  go_enter Tryz.func65, Tryz.ntmps65
  go_upto_region 1 with ((with_reducible refine xaJ (N := 5) rfl ?_); refine bxv 5 #[.int .i64 8, .int .i64 0, .int .i64 0, .int .u64 (o1 : Int), .int .u64 (o2 : Int), .int .i64 o3, .int .i64 o4, .int .i64 o5, .int .i64 o6, .int .i64 o7, .int .i64 o8] 109 ?_; intro t hg w1 hbox hb; have Bt := am hbox; have HBt := HB; replace HB := am (xaC HB.out hb); have HGt := am hg; have HLt := am (xaM hbox); clear hb hbox hg)
  go_upto_region 3 with ((with_reducible refine xaR (b := .append) (xs := #[.tmp 11, .tmp 14]) rfl ?_); go_loud (refine Sl.app rfl (.tmp 11) (.tmp 14) 28 (.agg #[.int .i64 0, .int .u64 0, .int .i64 0]) 24 rfl Tryz.underlying28 xeF rfl (by decide) (by omega) (xs := ([] : List S79)) (n := 0) rfl rfl rfl (Sl.nil _ _ _ _ _) HB.out (HC1.out _ HB.out) (by have := HL.out; have := HM.out; omega) ?_; intro A1 c1 w2 hs1 hb1 hk1; rw [List.nil_append] at hs1; have HO1 := am hs1; replace HB := am hb1; replace Bt := am (hk1 t _ _ (by decide) Bt.out); clear hs1 hb1 hk1))
  obtain ⟨ct_0, ct_1, ct_2, ct_3, ct_4, ct_5, ct_6, ct_7, ct_8, ct_9, ct_10⟩ := ce11 Bt
  go_wp2_with fail
  skip
  refine xbL (n := 15) (S := fun w' => w'.cell? ⟨t, 9, none⟩ = some (.int .i64 o7) ∧ w'.cell? ⟨t, 10, none⟩ = some (.int .i64 o8)) (ds := [10]) #[false, false, false, false, false, false, false, false, false, false, false, false, false, false, false] (by kernel_rfl) rfl rfl ⟨ct_9, ct_10⟩ (fun hHeld => ?_)
  replace HB := am (xaK HB.out)
  replace HO1 := am (HO1.out.below (xaK (Below.refl _ _)))
  replace Bt := am (xaP Bt.out)
  clear ct_0 ct_1 ct_2 ct_3 ct_4 ct_5 ct_6 ct_7 ct_8 ct_9 ct_10
  generalize w2.drew = w3 at *
  refine rP 0 ?_
  refine rP 1 ?_
  refine rP 2 ?_
  refine rP 3 ?_
  refine rP 5 ?_
  refine rP 6 ?_
  refine rT 7 ?_
  refine rP 8 ?_
  refine rT 9 ?_
  refine rO 4 (fun K hK => ?_)
  refine Sl.app_s (by rfl) (.tmp 55) (.tmp 58) 28 (.agg #[.int .i64 0, .int .u64 0, .int .i64 0]) 24 rfl Tryz.underlying28 xeF rfl (by decide) (by omega) HTL.out rfl rfl HO1.out HB.out (HCF.out _ HB.out) (by have := HL.out; have := HM.out; omega) ?_
  intro A4 c4 w5 hs4 hb4 hk4
  rw [HALL.out] at hs4
  have HO4 := am hs4;have HB4 := am hb4
  replace Bt := am (hk4 t _ _ (by decide) Bt.out)
  refine hK.out _ _ ⟨(xaB Bt.out 9).trans rfl, (xaB Bt.out 10).trans rfl⟩ (fun hHeld => ?_)
  clear hK K hs4 hb4 hk4
  simp only [List.getElem_toArray, List.getElem_cons_succ, List.getElem_cons_zero]
  refine rN ?_
  skip
  have hag := HAG.out w5 A4 c4 HO4.out HB4.out
  rw [show fl.length = m + (fl.length - m) by have := HM.out; omega] at hag
  have HAG2 := am hag;clear hag
  refine rL 10 (fun K hK => ?_)
  refine goes_ Tryz.func89 (by kernel_rfl) rfl #[.slice A4 (m + (fl.length - m)) c4, .int .i64 (m : Int), .int .i64 o7, .int .i64 o8] (by rfl) rfl rfl (by (try simp only [List.map_toArray, List.map_cons, List.map_nil]); first | done | rfl) ?_
  with_reducible refine (HAG2.out).mono ?_
  rintro z w6 ⟨A6, c6, r, er, rfl, h1, h2, h3, hs6, hb6⟩
  refine ⟨_, rfl, ?_⟩
  have HRR := am (HR1.out r er h1 h2 h3)
  have HO6 := am hs6;have HB6 := am hb6;clear h1 h2 h3 hs6 hb6 hHeld
  refine hK.out _ _ ?_
  clear hK K
  refine rN ?_
  refine rP 11 ?_
  refine rP 12 ?_
  refine rP 13 ?_
  refine rP 14 ?_
  refine rD ?_
  go_wp2_with fail
  go_ret2
  exact ⟨A6, c6, by rw [HRR.out]; first | done | rfl, by rw [HRR.out]; exact HO6.out, HB6.out⟩
def kindF (t : Int) : Int := if t = 2 then 2 else if t = 3 then 3 else if t = 4 then 4 else if t = 6 then 5 else if t = 7 then 6 else if t = 8 then 7 else 0
theorem kind_c (t : Int) (w : World) : Calls Tryz.prog 81 #[.int .i64 t] w fun e w' => e = .returned (.int .i64 (kindF t)) ∧ w' = w := by
 by_cases h : t = 2 ∨ t = 3 ∨ t = 4 ∨ t = 6 ∨ t = 7 ∨ t = 8
 ·
  rcases h with rfl | rfl | rfl | rfl | rfl | rfl
  all_goals
   go_enter Tryz.func81, Tryz.ntmps81
   go_wp2_with fail
   go_ret
   exact ⟨rfl, rfl⟩
 ·
  have t1 : (t == 2) = false := beq_eq_false_iff_ne.2 (by omega)
  have t2 : (t == 3) = false := beq_eq_false_iff_ne.2 (by omega)
  have t3 : (t == 4) = false := beq_eq_false_iff_ne.2 (by omega)
  have t4 : (t == 6) = false := beq_eq_false_iff_ne.2 (by omega)
  have t5 : (t == 7) = false := beq_eq_false_iff_ne.2 (by omega)
  have t6 : (t == 8) = false := beq_eq_false_iff_ne.2 (by omega)
  have e : kindF t = 0 := by unfold kindF; rw [if_neg (by omega), if_neg (by omega), if_neg (by omega), if_neg (by omega), if_neg (by omega), if_neg (by omega)]
  rw [e]
  clear h e
  go_enter Tryz.func81, Tryz.ntmps81
  go_wp2_with fail
  go_ret
  exact ⟨rfl, rfl⟩
def opV (o : S37) : Value := .agg #[.int .i64 o.f0, .int .u64 (o.f1 : Int), .int .u64 (o.f2 : Int), .int .i64 o.f3, .int .i64 o.f4, .int .i64 o.f5, .int .i64 o.f6, .int .i64 o.f7, .int .i64 o.f8]
def xfT (o0 : Int) : Bool := decide (4 ≤ o0) && decide (o0 ≤ 7)
theorem takes_c (o0 : Int) (o1 o2 : Nat) (o3 o4 o5 o6 o7 o8 : Int) (w : World) : Calls Tryz.prog 60 #[(.agg #[.int .i64 o0, .int .u64 (o1 : Int), .int .u64 (o2 : Int), .int .i64 o3, .int .i64 o4, .int .i64 o5, .int .i64 o6, .int .i64 o7, .int .i64 o8])] w fun e w' => e = .returned (.bool (xfT o0)) ∧ Below w.heap.size w w' := by
 have HB : xaA (Below w.heap.size w w) := ⟨Below.refl _ _⟩
 unfold xfT
 obtain ⟨b1, h1⟩ : ∃ b1, decide (4 ≤ o0) = b1 := ⟨_, rfl⟩
 obtain ⟨b2, h2⟩ : ∃ b2, decide (o0 ≤ 7) = b2 := ⟨_, rfl⟩
 rw [h1, h2]
 cases b1
 all_goals
  go_enter Tryz.func60, Tryz.ntmps60
  go_upto_region 1 with ((with_reducible refine xaJ (N := 1) rfl ?_); refine bxv 1 #[.int .i64 o0, .int .u64 (o1 : Int), .int .u64 (o2 : Int), .int .i64 o3, .int .i64 o4, .int .i64 o5, .int .i64 o6, .int .i64 o7, .int .i64 o8] 77 ?_; intro t hg w1 hbox hb; have Bt := am hbox; have HBt := HB; replace HB := am (xaC HB.out hb); have HGt := am hg; have HLt := am (xaM hbox); clear hb hbox hg)
  have ct_ := ce9 Bt
  go_wp2_with fail
  go_ret
  exact ⟨rfl, HB.out⟩
def tkGo (o0 : Int) : Nat → Int
  | 0 => 0
  | j + 1 => if kindF ((j + 1 : Nat) : Int) = o0 ∧ o0 ≠ 0 then ((j + 1 : Nat) : Int) else tkGo o0 j
def tk (o0 : Int) : Int := tkGo o0 8
theorem xiT (o0 : Int) (o1 o2 : Nat) (o3 o4 o5 o6 o7 o8 : Int) (w : World) : Calls Tryz.prog 61 #[(.agg #[.int .i64 o0, .int .u64 (o1 : Int), .int .u64 (o2 : Int), .int .i64 o3, .int .i64 o4, .int .i64 o5, .int .i64 o6, .int .i64 o7, .int .i64 o8])] w fun e w' => e = .returned (.agg #[.int .i64 (tk o0), .int .i64 0, .int .i64 0, .int .u64 (o1 : Int), .int .u64 (o2 : Int), .int .i64 o3, .int .i64 o4, .int .i64 o5, .int .i64 o6, .int .i64 o7, .int .i64 o8]) ∧ Below w.heap.size w w' := by
 have HB : xaA (Below w.heap.size w w) := ⟨Below.refl _ _⟩
 have HK := am kind_c
 obtain ⟨tr_, htr⟩ : ∃ x, x = tk o0 := ⟨_, rfl⟩
 rw [← htr]
 have HTR := am htr;clear htr
 go_enter Tryz.func61, Tryz.ntmps61
 go_upto_region 1 with (first | ((with_reducible refine xaJ (N := 1) rfl ?_); refine bxv 1 #[.int .i64 o0, .int .u64 (o1 : Int), .int .u64 (o2 : Int), .int .i64 o3, .int .i64 o4, .int .i64 o5, .int .i64 o6, .int .i64 o7, .int .i64 o8] 77 ?_; intro a hg w1 hbox hb; have Ba := am hbox; have HBa := HB; replace HB := am (xaC HB.out hb); have HGa := am hg; have HLa := am (xaM hbox); clear hb hbox hg) | ((with_reducible refine xaJ (N := 2) rfl ?_); refine bxv 2 #[.int .i64 0, .int .i64 0, .int .i64 0, .int .u64 0, .int .u64 0, .int .i64 0, .int .i64 0, .int .i64 0, .int .i64 0, .int .i64 0, .int .i64 0] 109 ?_; intro g hg w2 hbox hb; have Bg := am hbox; replace Ba := am (xaD Ba.out hb); have HBg := HB; replace HB := am (xaC HB.out hb); have HGg := am hg; have HLg := am (xaM hbox); clear hb hbox hg))
 have hga : xaA (w.heap.size ≤ g ∧ a < g ∧ g < w2.heap.size) := ⟨by have h1 := HGa.out; have h2 := HGg.out; have h3 := HLa.out; have h4 := HLg.out; omega⟩
 clear HBa HBg HGa HGg HLa HLg;have ca_ := ce9 Ba
 go_upto_region 2 with ((with_reducible refine xaJ (N := 3) rfl ?_); refine bxv 3 #[.int .i64 0, .int .i64 0, .int .i64 0, .int .u64 0, .int .u64 0, .int .i64 0, .int .i64 0, .int .i64 0, .int .i64 0, .int .i64 0, .int .i64 0] 109 ?_; intro t hg w3 hbox hb; have Bt := am hbox; replace Ba := am (xaD Ba.out hb); replace Bg := am (xaD Bg.out hb); have HBt := HB; replace HB := am (xaC HB.out hb); have HGt := am hg; have HLt := am (xaM hbox); clear hb hbox hg; have ct_ := cz11 Bt)
 skip
 clear ca_ ct_
 have htg : xaA (g < t ∧ w.heap.size ≤ t) := ⟨by have h1 := HGt.out; have h2 := hga.out; omega⟩
 obtain ⟨w4, hwz⟩ : ∃ w4, setL w3 t 0 [.int .i64 0, .int .i64 0, .int .i64 0, .int .u64 (o1 : Int), .int .u64 (o2 : Int), .int .i64 o3, .int .i64 o4, .int .i64 o5, .int .i64 o6, .int .i64 o7, .int .i64 o8] = w4 := ⟨_, rfl⟩
 replace Bt := am (hwz ▸ xbD (vs := [.int .i64 0, .int .i64 0, .int .i64 0, .int .u64 (o1 : Int), .int .u64 (o2 : Int), .int .i64 o3, .int .i64 o4, .int .i64 o5, .int .i64 o6, .int .i64 o7, .int .i64 o8]) Bt.out rfl)
 replace HB := am (hwz ▸ xaY htg.out.2 _ 0 _ HB.out)
 replace Ba := am (hwz ▸ (xaW (by have := hga.out; have := htg.out; omega) _ 0 _).trans Ba.out)
 replace Bg := am (hwz ▸ (xaW (by have := htg.out; omega) _ 0 _).trans Bg.out)
 simp only [setL, Nat.reduceAdd] at hwz
 rw [hwz]
 clear hwz HBt HGt HLt
 go_wp2_with fail
 skip
 go_loopg [4] 8 (fun kq v4 w' => ∃ k : Nat, kq + k = 8 ∧ v4 = .int .i64 ((k + 1 : Nat) : Int) ∧ xaA (Below w.heap.size w w') ∧ xaA (w'.heap[a]? = some (.cells #[.int .i64 o0, .int .u64 (o1 : Int), .int .u64 (o2 : Int), .int .i64 o3, .int .i64 o4, .int .i64 o5, .int .i64 o6, .int .i64 o7, .int .i64 o8] 77 (0, 0))) ∧ xaA (w'.heap[g]? = some (.cells #[.int .i64 0, .int .i64 0, .int .i64 0, .int .u64 0, .int .u64 0, .int .i64 0, .int .i64 0, .int .i64 0, .int .i64 0, .int .i64 0, .int .i64 0] 109 (0, 0))) ∧ xaA (w'.heap[t]? = some (.cells #[.int .i64 (tkGo o0 k), .int .i64 0, .int .i64 0, .int .u64 (o1 : Int), .int .u64 (o2 : Int), .int .i64 o3, .int .i64 o4, .int .i64 o5, .int .i64 o6, .int .i64 o7, .int .i64 o8] 109 (0, 0))))
 case atStart => exact ⟨0, rfl, rfl, HB, Ba, Bg, Bt⟩
 case round =>
  obtain ⟨k, hk, rfl, HB, Ba, Bg, Bt⟩ := hrel
  obtain ⟨kk, hkk⟩ : ∃ kk : Int, kk = ((k + 1 : Nat) : Int) := ⟨_, rfl⟩
  rw [← hkk]
  have HKK := am hkk;have ca_ := ce9 Ba;have ct_ := cz11 Bt
  by_cases hlt : k < 8
  ·
   have t1 : decide (kk ≤ 8) = true := decide_eq_true (by omega)
   have b1 : IntKind.i64.wrap (kk + 1) = ((k + 1 + 1 : Nat) : Int) := by rw [i64_w, hkk]; unfold wrap64; omega
   have HC := am (HK.out kk)
   have hgo : tkGo o0 (k + 1) = if kindF kk = o0 ∧ o0 ≠ 0 then kk else tkGo o0 k := by rw [tkGo, hkk]
   have HGO := am hgo
   have HM : xaA (7 - k < gk ∧ 7 - k + (k + 1) = 8) := ⟨by omega⟩
   generalize kindF kk = kf at *
   generalize tkGo o0 k = K0 at *
   clear hgo hkk hk
   by_cases he : kf = o0
   ·
    subst he
    by_cases hz : kf = 0
    ·
     subst hz
     go_wp2_with fail
     skip
     go_quiet ((go_at_call 81; with_reducible exact Calls.quiet_of_same (HC.out _)))
     go_wp2_with fail
     go_roundg (7 - k)
     case measure => exact HM.out.1
     case rel => exact ⟨k + 1, HM.out.2, by first | rfl | rw [b1], ⟨xaG HB.out _⟩, ⟨xaZ Ba.out _⟩, ⟨xaZ Bg.out _⟩, ⟨by rw [HGO.out, if_neg (by simp)]; exact xaZ Bt.out _⟩⟩
    ·
     have t2 : (kf != 0) = true := bne_iff_ne.2 hz
     have HGO2 : xaA (tkGo kf (k + 1) = kk) := ⟨by rw [HGO.out, if_pos ⟨rfl, hz⟩]⟩
     clear HGO hz
     go_wp2_with fail
     go_quiet ((go_at_call 81; with_reducible exact Calls.quiet_of_same (HC.out _)))
     skip
     clear ca_ ct_
     replace HB := am (xaG HB.out nq)
     replace Ba := am (xaZ Ba.out nq)
     replace Bg := am (xaZ Bg.out nq)
     replace Bt := am (xaZ Bt.out nq)
     generalize wr.drewN nq = w5 at *
     have ct_ := cz11 Bt
     go_wp2_with fail
     skip
     have hne1 : a ≠ t := by have := hga.out; have := htg.out; omega
     have hne2 : g ≠ t := by have := htg.out; omega
     go_roundg (7 - k)
     case measure => exact HM.out.1
     case rel => exact ⟨k + 1, HM.out.2, by first | rfl | rw [b1], ⟨xaF HB.out htg.out.2⟩, ⟨(Below.heap_setCell _ ⟨t, 0, none⟩ _ a hne1).trans Ba.out⟩, ⟨(Below.heap_setCell _ ⟨t, 0, none⟩ _ g hne2).trans Bg.out⟩, ⟨by rw [HGO2.out]; exact xaN Bt.out 0 _ rfl⟩⟩
   ·
    have t2 : (kf == o0) = false := beq_eq_false_iff_ne.2 he
    have HGO2 : xaA (tkGo o0 (k + 1) = K0) := ⟨by rw [HGO.out, if_neg (fun h => he h.1)]⟩
    clear HGO he
    go_wp2_with fail
    go_quiet ((go_at_call 81; with_reducible exact Calls.quiet_of_same (HC.out _)))
    go_wp2_with fail
    go_roundg (7 - k)
    case measure => exact HM.out.1
    case rel => exact ⟨k + 1, HM.out.2, by first | rfl | rw [b1], ⟨xaG HB.out _⟩, ⟨xaZ Ba.out _⟩, ⟨xaZ Bg.out _⟩, ⟨by rw [HGO2.out]; exact xaZ Bt.out _⟩⟩
  ·
   have t1 : decide (kk ≤ 8) = false := decide_eq_false (by omega)
   have hk8 : k = 8 := by omega
   have HTR2 : xaA (tkGo o0 k = tr_) := ⟨by rw [HTR.out, hk8]; rfl⟩
   generalize tkGo o0 k = K0 at *
   clear hk8 hk hlt hkk;have cg_ := cz11 Bg
   go_wp2_with fail
   skip
   clear ca_ ct_ cg_
   have hgb : xaA (w.heap.size ≤ g) := ⟨hga.out.1⟩
   obtain ⟨wz, hwz⟩ : ∃ wz, setL wr g 0 [.int .i64 K0, .int .i64 0, .int .i64 0, .int .u64 (o1 : Int), .int .u64 (o2 : Int), .int .i64 o3, .int .i64 o4, .int .i64 o5, .int .i64 o6, .int .i64 o7, .int .i64 o8] = wz := ⟨_, rfl⟩
   replace Bg := am (hwz ▸ xbD (vs := [.int .i64 K0, .int .i64 0, .int .i64 0, .int .u64 (o1 : Int), .int .u64 (o2 : Int), .int .i64 o3, .int .i64 o4, .int .i64 o5, .int .i64 o6, .int .i64 o7, .int .i64 o8]) Bg.out rfl)
   replace HB := am (hwz ▸ xaY hgb.out _ 0 _ HB.out)
   simp only [setL, Nat.reduceAdd] at hwz
   rw [hwz]
   clear hwz;have cg_ := ce11 Bg
   exact bodyPost_ret (v := .agg #[.int .i64 K0, .int .i64 0, .int .i64 0, .int .u64 (o1 : Int), .int .u64 (o2 : Int), .int .i64 o3, .int .i64 o4, .int .i64 o5, .int .i64 o6, .int .i64 o7, .int .i64 o8]) (by simp [results, Tryz.results61, go_sem, cg_]) rfl ⟨by rw [HTR2.out], HB.out⟩
def ofO (o : S37) : S77 := ⟨o.f0, (o.f1 : Int), (o.f2 : Int), o.f3, o.f4, o.f5, o.f6, o.f7, o.f8⟩
instance : Flat k77 := ⟨fun {w w' x cs} h => by rw [k77_open h]; exact k77_mk w' x⟩
def opC (w : World) (ad : Addr) (i : Nat) (o : S37) : Prop :=
  w.cell? (ad.add (i * 9)) = some (.int .i64 o.f0) ∧ w.cell? ⟨(ad.add (i * 9)).block, (ad.add (i * 9)).off + 1, none⟩ = some (.int .u64 (o.f1 : Int)) ∧ w.cell? ⟨(ad.add (i * 9)).block, (ad.add (i * 9)).off + 2, none⟩ = some (.int .u64 (o.f2 : Int)) ∧ w.cell? ⟨(ad.add (i * 9)).block, (ad.add (i * 9)).off + 3, none⟩ = some (.int .i64 o.f3) ∧ w.cell? ⟨(ad.add (i * 9)).block, (ad.add (i * 9)).off + 4, none⟩ = some (.int .i64 o.f4) ∧ w.cell? ⟨(ad.add (i * 9)).block, (ad.add (i * 9)).off + 5, none⟩ = some (.int .i64 o.f5) ∧ w.cell? ⟨(ad.add (i * 9)).block, (ad.add (i * 9)).off + 6, none⟩ = some (.int .i64 o.f6) ∧ w.cell? ⟨(ad.add (i * 9)).block, (ad.add (i * 9)).off + 7, none⟩ = some (.int .i64 o.f7) ∧ w.cell? ⟨(ad.add (i * 9)).block, (ad.add (i * 9)).off + 8, none⟩ = some (.int .i64 o.f8)
theorem at_op {w : World} {A : Option Addr} {n : Nat} {l : List S37} (h : Kd.C k77 w A n (l.map ofO)) (i : Nat) (hi : i < l.length) (hn : n = l.length) : ∃ ad, A = some ad ∧ opC w ad i l[i] := by
 subst hn
 obtain ⟨ad, e, h0, h1, h2, h3, h4, h5, h6, h7, h8⟩ := at_T77 h (i : Int) (by omega) (by omega)
 rw [Int.toNat_natCast] at h0 h1 h2 h3 h4 h5 h6 h7 h8
 have hr : xfD (l.map ofO) (i : Int) = ofO l[i] := by
  unfold xfD; rw [List.getD_eq_getElem?_getD, Int.toNat_natCast, List.getElem?_map, List.getElem?_eq_getElem hi]; rfl
 rw [hr] at h0 h1 h2 h3 h4 h5 h6 h7 h8
 exact ⟨ad, e, h0, h1, h2, h3, h4, h5, h6, h7, h8⟩
def pushF (fl gl : List S48) : List S48 × Int := if 4096 < fl.length + gl.length then ([], 81) else (fl ++ gl, 0)
theorem xlZ : ∀ (gl fl : List S48), fl.length ≤ 4096 → (adds fl gl).2 = (pushF fl gl).2 ∧ ((pushF fl gl).2 = 0 → (adds fl gl).1 = (pushF fl gl).1)
 | [], fl, h => by
  unfold pushF adds
  rw [if_neg (by simp; omega)]
  simp
 | g :: r, fl, h => by
  unfold adds
  by_cases hf : fl.length = 4096
  ·
   rw [if_pos hf]
   unfold pushF
   rw [if_pos (by rw [List.length_cons]; omega)]
   exact ⟨rfl, fun h => absurd h (by decide)⟩
  ·
   rw [if_neg hf]
   have ih := xlZ r (fl ++ [g]) (by rw [List.length_append, List.length_singleton]; omega)
   have e : pushF (fl ++ [g]) r = pushF fl (g :: r) := by
    unfold pushF
    rw [List.length_append, List.length_singleton, List.length_cons, List.append_assoc, show fl.length + 1 + r.length = fl.length + (r.length + 1) by omega]
    rfl
   rw [e] at ih
   exact ih
def tryO (fx : List S48 × Int) (o : S37) (fl : List S48) (ms : List Int) : List S48 × Int :=
  if o.f0 = 2 then pushF fl [⟨o.f3, o.f1, o.f5⟩] else if o.f0 = 3 then (if fx.2 = 0 then pushF fl fx.1 else ([], fx.2)) else turnF o fl (lastM ms)
theorem push_err (fl gl : List S48) (h : (pushF fl gl).2 ≠ 0) : (pushF fl gl).2 = 81 := by
 unfold pushF at h ⊢
 split
 ·
  rfl
 ·
  rename_i h1; rw [if_neg h1] at h; exact absurd rfl h
theorem do_try (fx : List S48 × Int) (o : S37) (fl : List S48) (ms : List Int) (h1 : o.f0 ≠ 1) (hk : 1 ≤ o.f0 ∧ o.f0 ≤ 7) (hl : fl.length ≤ 4096) :
  doOp fx o fl ms = if (tryO fx o fl ms).2 = 0 then ((tryO fx o fl ms).1, if 4 ≤ o.f0 then ms.dropLast else ms, 0) else (fl, ms, (tryO fx o fl ms).2) := by
 unfold doOp act tryO
 rw [if_neg h1]
 by_cases h2 : o.f0 = 2
 ·
  rw [if_pos h2, if_pos h2, if_neg (show ¬ 4 ≤ o.f0 by omega)]
  unfold pushF
  rw [List.length_singleton]
  by_cases hf : fl.length = 4096
  ·
   have e1 : 4096 < fl.length + 1 := by omega
   simp [hf]
  ·
   have e1 : ¬ 4096 < fl.length + 1 := by omega
   simp [hf, e1]
 rw [if_neg h2, if_neg h2]
 by_cases h3 : o.f0 = 3
 ·
  rw [if_pos h3, if_pos h3, if_neg (show ¬ 4 ≤ o.f0 by omega)]
  by_cases hx : fx.2 = 0
  ·
   rw [if_pos hx, if_pos hx]
   obtain ⟨e1, e2⟩ := xlZ fx.1 fl hl
   by_cases he : (pushF fl fx.1).2 = 0
   ·
    rw [if_pos he, if_pos (e1.trans he), e2 he, e1, he]
   ·
    rw [if_neg he, if_neg (by rw [e1]; exact he), e1]
  ·
   rw [if_neg hx, if_neg hx]
   rw [if_neg hx, if_neg hx]
 rw [if_neg h3, if_neg h3, if_pos (show 4 ≤ o.f0 by omega)]
 unfold turnF
 by_cases h4 : o.f0 = 4
 ·
  rw [if_pos h4, if_pos h4]
 rw [if_neg h4, if_neg h4]
 by_cases h5 : o.f0 = 5
 ·
  rw [if_pos h5, if_pos h5]
  split
  ·
   rfl
  ·
   rfl
 rw [if_neg h5, if_neg h5]
 by_cases h6 : o.f0 = 6
 ·
  rw [if_pos h6, if_pos h6]
 rw [if_neg h6, if_neg h6]
 by_cases h7 : (pushes o.f8 fl (pairs (fl.drop (lastM ms)) 1 o.f7.toNat)).2 = 0
 ·
  rw [if_pos h7, if_pos h7, if_pos rfl, h7]
 ·
  rw [if_neg h7, if_neg h7, if_neg h7]
theorem own_gr {α : Type} {d : Kd α} {e : TypeId} {w : World} {base b0 : Nat} {F G : Nat → Prop} {A : Option Addr} {c : Nat} {xs : List α} (h : Sl d e w b0 G A c xs) (hb : base ≤ b0) : Sl d e w base (Gr F b0 w.heap.size) A c xs :=
  ⟨h.le, h.lim, h.row.imp_right (fun ⟨b, off, cur, inner, h1, h2, h3, h4, h5⟩ => ⟨b, off, cur, inner, h1, Or.inr ⟨h3, xaM h4⟩, Nat.le_trans hb h3, h4, h5⟩)⟩
theorem push_c (fl gl : List S48) (A B : Option Addr) (c d : Nat) (w : World) {base : Nat} {F : Nat → Prop} (hs : Sl k79 79 w base F A c (fl.map ofF)) (hg : Kd.C k79 w B gl.length (gl.map ofF)) (hl : fl.length ≤ 4096) (hgl : gl.length ≤ 4096) (hb : base ≤ w.heap.size) :
  Calls Tryz.prog 62 #[.slice A fl.length c, .slice B gl.length d] w fun e w' => ∃ A' c', e = .returned (.tuple #[.slice A' (pushF fl gl).1.length c', .int .i64 (pushF fl gl).2]) ∧ Sl k79 79 w' base (Gr F w.heap.size w'.heap.size) A' c' ((pushF fl gl).1.map ofF) ∧ Fr (own A) w w' := by
 have hw : IntKind.i64.wrap ((fl.length : Int) + (gl.length : Int)) = (fl.length : Int) + (gl.length : Int) := by rw [i64_w]; unfold wrap64; omega
 have HB := am hb;have HL := am hl;have HG := am hgl;have HS := am hs;have HC := am hg
 have hfl : (fl.map ofF).length = fl.length := List.length_map _
 have HFL := am hfl
 by_cases hc : 4096 < fl.length + gl.length
 ·
  have hp : pushF fl gl = ([], 81) := by unfold pushF; rw [if_pos hc]
  rw [hp]
  have t1 : decide ((4096 : Int) < (fl.length : Int) + (gl.length : Int)) = true := decide_eq_true (by omega)
  clear hs hg hl hgl hb hfl hc hp
  go_enter Tryz.func62, Tryz.ntmps62
  go_wp2_with fail
  go_ret2
  exact ⟨none, 0, rfl, Sl.nil _ _ _ _ _, Fr.refl _ _⟩
 ·
  have hp : pushF fl gl = (fl ++ gl, 0) := by unfold pushF; rw [if_neg hc]
  rw [hp]
  have t1 : decide ((4096 : Int) < (fl.length : Int) + (gl.length : Int)) = false := decide_eq_false (by omega)
  have HE : xaA ((fl ++ gl).length = fl.length + gl.length) := ⟨List.length_append⟩
  clear hs hg hl hgl hb hfl hc hp
  go_enter Tryz.func62, Tryz.ntmps62
  go_wp2_with ((with_reducible refine xaR (b := .append) (xs := #[.tmp 12, .tmp 13]) rfl ?_); go_loud (refine Sl.xkQ rfl (.tmp 12) (.tmp 13) 28 (.agg #[.int .i64 0, .int .u64 0, .int .i64 0]) 24 rfl Tryz.underlying28 xeF rfl (by decide) (by omega) (xs := fl.map ofF) (ys := gl.map ofF) (by rw [HFL.out]; rfl) rfl HS.out HC.out HB.out (by have := HL.out; have := HG.out; have := HFL.out; omega) ?_; intro A1 c1 w1 hs1 hf1 _; rw [← List.map_append] at hs1; rw [HFL.out]; have HS1 := am hs1; have HF1 := am hf1; clear hs1 hf1))
  go_ret2
  exact ⟨A1, c1, by rw [HE.out]; first | done | rfl, HS1.out, HF1.out⟩
theorem xdG {b : Nat} {G : Nat → Prop} {w0 : World} (hb : G b ∨ w0.heap.size ≤ b) : ∀ (vs : List Value) (k : Nat) (w : World), Fr G w0 w → Fr G w0 (setL w b k vs)
  | [], _, _, h => h
  | v :: r, k, w, h => xdG hb r (k + 1) _ (h.set (p := ⟨b, k, none⟩) v hb)
theorem xfW {α : Type} {d : Kd α} [Flat d] {e : TypeId} {base : Nat} {F : Nat → Prop} {A : Option Addr} {c : Nat} {xs : List α} {w : World} {b t : Nat} {vs old : List Value} (h : Sl d e w base F A c xs) (hb : w.heap[b]? = some (.cells old.toArray t (0, 0))) (ht : e ≠ t) (k : Nat) : Sl d e (setL w b k vs) base F A c xs :=
  ⟨h.le, h.lim, h.row.imp_right (fun ⟨b', off, cur, inner, h1, h2, h3, h4, h5, h6, h7⟩ => ⟨b', off, cur, inner, h1, h2, h3, (xaW (fun e1 => by
    subst e1; rw [h4] at hb; injection hb with hb; injection hb with _ hb; exact ht hb) vs k w).trans h4, h5, h6.imp_ (fun _ _ hp => Flat.K hp), h7⟩)⟩
def OneP (base : Nat) (F : Nat → Prop) (w : World) (Al : Option Addr) (n cl q : Nat) (R : List S48 × List Int × Int) (e : Ending) (w' : World) : Prop :=
  ∃ A' c' B' d', e = .returned (.agg #[.slice Al n cl, .int .i64 ((q : Int) + 1), .slice A' R.1.length c', .slice B' R.2.1.length d', .bool (decide (R.2.2 ≠ 0)), .int .i64 R.2.2]) ∧ Sl k79 79 w' base (Gr F w.heap.size w'.heap.size) A' c' (R.1.map ofF) ∧ Sl (Kd.int .i64) 3 w' base (Gr F w.heap.size w'.heap.size) B' d' R.2.1 ∧ Fr F w w'
theorem sl_up {α : Type} {d : Kd α} {e : TypeId} {w' : World} {base n nb n5 : Nat} {F : Nat → Prop} {A : Option Addr} {c : Nat} {xs : List α} (h : Sl d e w' base (Gr F nb n5) A c xs) (hn : n ≤ nb) : Sl d e w' base (Gr F n w'.heap.size) A c xs :=
 h.mono (fun k hk hl => by
  rcases hk with hk | hk
  ·
   exact Or.inl hk
  ·
   exact Or.inr ⟨by omega, hl⟩)
theorem lit1 (w : World) (a : Int) (x : Nat) (b : Int) : Kd.C k79 (w.alloc (.cells #[.int .i64 a, .int .u64 (x : Int), .int .i64 b] 79)) (some ⟨w.heap.size, 0, none⟩) 1 ([(⟨a, x, b⟩ : S48)].map ofF) := lit_C (xhY w (⟨a, (x : Int), b⟩ : S79))
theorem push_no {fl gl : List S48} {n m : Nat} (A B : Option Addr) (c d : Nat) (w : World) (hn : n = fl.length) (hm : m = gl.length) (hl : fl.length ≤ 4096) (hgl : gl.length ≤ 4096) (h : (pushF fl gl).2 ≠ 0) : Calls Tryz.prog 62 #[.slice A n c, .slice B m d] w fun e w' => e = .returned (.tuple #[.slice none 0 0, .int .i64 81]) ∧ w' = w := by
 subst hn hm
 have hc : 4096 < fl.length + gl.length := by
  unfold pushF at h
  by_cases hc : 4096 < fl.length + gl.length
  ·
   exact hc
  ·
   rw [if_neg hc] at h; exact absurd rfl h
 have hw : IntKind.i64.wrap ((fl.length : Int) + (gl.length : Int)) = (fl.length : Int) + (gl.length : Int) := by rw [i64_w]; unfold wrap64; omega
 have t1 : decide ((4096 : Int) < (fl.length : Int) + (gl.length : Int)) = true := decide_eq_true (by omega)
 clear hl hgl h hc
 go_enter Tryz.func62, Tryz.ntmps62
 go_wp2_with fail
 go_ret2
 exact ⟨rfl, rfl⟩
theorem push_ok {fl gl : List S48} {n m : Nat} (A B : Option Addr) (c d : Nat) (w : World) {base : Nat} {F : Nat → Prop} (hn : n = fl.length) (hm : m = gl.length) (hs : Sl k79 79 w base F A c (fl.map ofF)) (hg : Kd.C k79 w B gl.length (gl.map ofF)) (hl : fl.length ≤ 4096) (hgl : gl.length ≤ 4096) (hb : base ≤ w.heap.size) (h : (pushF fl gl).2 = 0) :
  Calls Tryz.prog 62 #[.slice A n c, .slice B m d] w fun e w' => ∃ A' c', e = .returned (.tuple #[.slice A' (n + m) c', .int .i64 0]) ∧ Sl k79 79 w' base (Gr F w.heap.size w'.heap.size) A' c' ((pushF fl gl).1.map ofF) ∧ Fr (own A) w w' := by
 subst hn hm
 have hc : ¬ 4096 < fl.length + gl.length := fun hc => by unfold pushF at h; rw [if_pos hc] at h; exact absurd h (by decide)
 have hp : pushF fl gl = (fl ++ gl, 0) := by unfold pushF; rw [if_neg hc]
 have h1 := push_c fl gl A B c d w hs hg hl hgl hb
 rw [hp, List.length_append] at h1
 rw [hp]
 exact h1
theorem push_any {fl gl : List S48} {n m : Nat} (A B : Option Addr) (c d : Nat) (w : World) {base : Nat} {F : Nat → Prop} (hn : n = fl.length) (hm : m = gl.length) (hs : Sl k79 79 w base F A c (fl.map ofF)) (hg : Kd.C k79 w B gl.length (gl.map ofF)) (hl : fl.length ≤ 4096) (hgl : gl.length ≤ 4096) (hb : base ≤ w.heap.size) :
  Calls Tryz.prog 62 #[.slice A n c, .slice B m d] w fun e w' => ∃ A' c' n', e = .returned (.tuple #[.slice A' n' c', .int .i64 (pushF fl gl).2]) ∧ ((pushF fl gl).2 = 0 → n' = (pushF fl gl).1.length ∧ Sl k79 79 w' base (Gr F w.heap.size w'.heap.size) A' c' ((pushF fl gl).1.map ofF)) ∧ ((pushF fl gl).2 ≠ 0 → w' = w) ∧ Fr (own A) w w' := by
 by_cases h : (pushF fl gl).2 = 0
 ·
  refine (push_ok A B c d w hn hm hs hg hl hgl hb h).mono ?_
  rintro e w' ⟨A', c', rfl, h1, h2⟩
  refine ⟨A', c', n + m, by rw [h], fun _ => ⟨?_, h1⟩, fun h3 => absurd h h3, h2⟩
  unfold pushF at h ⊢
  split
  ·
   rename_i h4; rw [if_pos h4] at h; exact absurd h (by decide)
  ·
   rw [List.length_append, hn, hm]
 ·
  refine (push_no A B c d w hn hm hl hgl h).mono ?_
  rintro e w' ⟨rfl, rfl⟩
  exact ⟨none, 0, 0, by rw [push_err _ _ h], fun h3 => absurd h3 h, fun _ => rfl, Fr.refl _ _⟩
theorem xjA {w : World} {base : Nat} {F : Nat → Prop} {A : Option Addr} {c : Nat} {ms : List Int} (h : Sl (Kd.int .i64) 3 w base F A c ms) (hne : ms ≠ []) (hp : ∀ m ∈ ms, 0 ≤ m) (hl : ms.length ≤ 8192) :
  ∃ adm k, A = some adm ∧ w.cell? (adm.add k) = some (.int .i64 (lastM ms : Int)) ∧ ms.length = k + 1 ∧ k < ms.length ∧ k ≤ c ∧ ms.length ≤ c ∧ IntKind.i64.wrap ((ms.length : Int) - 1) = (k : Int) ∧ ms.dropLast.length = k ∧ ms.dropLast = ms.take k := by
 have h1 := List.length_pos_iff.2 hne
 obtain ⟨ad, e, hx⟩ := at_i h.C (ms.length - 1) (by omega)
 have h2 := xcV hne hp
 have h3 : ms.getD (ms.length - 1) 0 = (lastM ms : Int) := by
  rw [List.getD_eq_getElem?_getD]
  unfold lastM
  rw [← List.getLast?_eq_getElem?]
  have h4 := hp (ms.getLast hne) (List.getLast_mem hne)
  rw [List.getLast?_eq_some_getLast hne]
  show ms.getLast hne = (((ms.getLast hne).toNat : Nat) : Int)
  omega
 rw [h3] at hx
 refine ⟨ad, ms.length - 1, e, hx, by omega, by omega, by have := h.le; omega, h.le, ?_, List.length_dropLast, List.dropLast_eq_take⟩
 rw [i64_w]; unfold wrap64; omega
theorem ofD_c (l : List S37) (A : Option Addr) (c : Nat) (w : World) (hr : Kd.C k37 w A l.length l) (hl : l.length ≤ 4096) :
  Calls Tryz.prog 12 #[.slice A l.length c] w fun e w' => ∃ A' c', e = .returned (.slice A' l.length c') ∧ Own k77 77 w w' A' c' (l.map ofO) ∧ Below w.heap.size w w' := by
 have HR := am hr;have HL := am hl;clear hr hl
 go_enter Tryz.func12, Tryz.ntmps12
 go_wp2_with fail
 go_loopg [3, 4, 5] l.length (fun kq v3 v4 v5 w' => ∃ (i : Nat) (A2 : Option Addr) (c2 : Nat), kq + i = l.length ∧ i ≤ l.length ∧ v3 = .slice A2 i c2 ∧ v4 = .int .i64 (i : Int) ∧ xaA (Own k77 77 w w' A2 c2 ((l.take i).map ofO)) ∧ xaA (Below w.heap.size w w'))
 case atStart => exact ⟨0, none, 0, Nat.add_zero _, Nat.zero_le _, rfl, rfl, ⟨Sl.nil _ _ _ _ _⟩, ⟨Below.refl _ _⟩⟩
 case round =>
  obtain ⟨i, A2, c2, hk, hi, rfl, rfl, HO, HB⟩ := hrel
  by_cases hlt : i < l.length
  ·
   have t1 : decide (i < l.length) = true := decide_eq_true hlt
   have b3 := n1t (i := i) (by have := HL.out; omega)
   obtain ⟨ad, e, q0, q1, q2, q3, q4, q5, q6, q7, q8⟩ := xlW (Kd.xaQ HR.out HB.out) (i : Int) (by omega) (by omega)
   subst e
   rw [rd37 hlt] at q0 q1 q2 q3 q4 q5 q6 q7 q8
   rw [Int.toNat_natCast] at q0 q1 q2 q3 q4 q5 q6 q7 q8
   obtain ⟨p, hp⟩ : ∃ p, p = l[i] := ⟨_, rfl⟩
   rw [← hp] at q0 q1 q2 q3 q4 q5 q6 q7 q8
   have HXX : xaA (p = l[i]) := ⟨hp⟩
   have HLT := am hlt;have HI := am hi
   have HM2 : xaA (l.length - (i + 1) < gk ∧ l.length - (i + 1) + (i + 1) = l.length ∧ i + 1 ≤ l.length) := ⟨by omega⟩
   clear hp hk hi
   skip
   go_upto_region 6 with ((with_reducible refine xaJ (N := 5) rfl ?_); refine bxv 5 #[.int .i64 0, .float .f64 0, .float .f64 0, .int .i64 0, .int .i64 0, .int .i64 0, .int .i64 0, .int .i64 0, .int .i64 0] 37 ?_; intro o hg w3 hbox hb; have Bo := am hbox; have HBo := HB; replace HB := am (xaC HB.out hb); have HGo := am hg; have HLo := am (xaM hbox); replace HO := am (HO.out.below hb); clear hb hbox hg; have co_ := cz9 Bo)
   skip
   have ho0 : xaA (w.heap.size ≤ o) := ⟨by have := HGo.out; have := HBo.out.size; omega⟩
   clear q0 q1 q2 q3 q4 q5 q6 q7 q8 HBo HGo HLo co_;have Bo0 := Bo
   obtain ⟨w4, hwz⟩ : ∃ w4, setL w3 o 0 [.int .i64 p.f0, .float .f64 p.f1, .float .f64 p.f2, .int .i64 p.f3, .int .i64 p.f4, .int .i64 p.f5, .int .i64 p.f6, .int .i64 p.f7, .int .i64 p.f8] = w4 := ⟨_, rfl⟩
   replace Bo := am (hwz ▸ xbD (vs := [.int .i64 p.f0, .float .f64 p.f1, .float .f64 p.f2, .int .i64 p.f3, .int .i64 p.f4, .int .i64 p.f5, .int .i64 p.f6, .int .i64 p.f7, .int .i64 p.f8]) Bo.out rfl)
   replace HB := am (hwz ▸ xaY ho0.out _ 0 _ HB.out)
   replace HO := am (hwz ▸ xfW (vs := [.int .i64 p.f0, .float .f64 p.f1, .float .f64 p.f2, .int .i64 p.f3, .int .i64 p.f4, .int .i64 p.f5, .int .i64 p.f6, .int .i64 p.f7, .int .i64 p.f8]) HO.out Bo0.out (by decide) 0)
   simp only [setL, Nat.reduceAdd] at hwz
   rw [hwz]
   clear hwz;have co_ := ce9 Bo
   skip
   refine xbL (n := 25) (S := fun w' => w'.cell? ⟨o, 0, none⟩ = some (.int .i64 p.f0) ∧ w'.cell? ⟨o, 1, none⟩ = some (.float .f64 p.f1) ∧ w'.cell? ⟨o, 2, none⟩ = some (.float .f64 p.f2) ∧ w'.cell? ⟨o, 3, none⟩ = some (.int .i64 p.f3) ∧ w'.cell? ⟨o, 4, none⟩ = some (.int .i64 p.f4) ∧ w'.cell? ⟨o, 5, none⟩ = some (.int .i64 p.f5) ∧ w'.cell? ⟨o, 6, none⟩ = some (.int .i64 p.f6) ∧ w'.cell? ⟨o, 7, none⟩ = some (.int .i64 p.f7) ∧ w'.cell? ⟨o, 8, none⟩ = some (.int .i64 p.f8)) (ds := [22, 23]) #[false, false, false, false, false, false, false, false, false, false, false, false, false, false, false, false, false, false, false, false, false, false, false, false, false] (by kernel_rfl) rfl rfl co_ (fun hHeld => ?_)
   replace HB := am (xaK HB.out)
   replace HO := am (HO.out.below (xaK (Below.refl _ _)))
   clear co_
   generalize w4.drew = w5 at *
   refine rP 0 ?_
   refine rP 1 ?_
   refine rT 2 ?_
   refine rP 3 ?_
   refine rT 4 ?_
   refine rP 6 ?_
   refine rT 7 ?_
   refine rP 9 ?_
   refine rT 10 ?_
   refine rP 11 ?_
   refine rT 12 ?_
   refine rP 13 ?_
   refine rT 14 ?_
   refine rP 15 ?_
   refine rT 16 ?_
   refine rP 17 ?_
   refine rT 18 ?_
   refine rP 19 ?_
   refine rT 20 ?_
   refine rO 5 (fun K hK => ?_)
   refine goes_ Tryz.func29 (by kernel_rfl) rfl #[.float .f64 p.f1] (by rfl) rfl rfl (by (try simp only [List.map_toArray, List.map_cons, List.map_nil]); first | done | rfl) ?_
   with_reducible refine (xdD p.f1 _).mono ?_
   rintro z w6 ⟨rfl, hw_⟩
   refine ⟨_, rfl, ?_⟩
   obtain rfl := hw_.symm
   refine hK.out _ _ hHeld (fun hHeld => ?_)
   clear hK K
   refine rN ?_
   refine rO 8 (fun K hK => ?_)
   refine goes_ Tryz.func29 (by kernel_rfl) rfl #[.float .f64 p.f2] (by rfl) rfl rfl (by (try simp only [List.map_toArray, List.map_cons, List.map_nil]); first | done | rfl) ?_
   with_reducible refine (xdD p.f2 _).mono ?_
   rintro z w6 ⟨rfl, hw_⟩
   refine ⟨_, rfl, ?_⟩
   obtain rfl := hw_.symm
   refine hK.out _ _ hHeld (fun hHeld => ?_)
   clear hK K
   refine rN ?_
   refine rP 21 ?_
   clear hHeld
   refine rL 22 (fun K hK => ?_)
   refine xbP (w1 := ?_) (v := ?_) (by rfl) rfl ?_ ?_
   rotate_left 2
   ·
    go_simp
    constructor
    ·
     rfl
    ·
     rfl
   refine hK.out _ _ ?_
   clear hK K
   refine rN ?_
   refine rL 23 (fun K hK => ?_)
   refine Sl.xlY (by rfl) (.tmp 16) (.tmp 38) 31 (.agg #[.int .i64 0, .int .u64 0, .int .u64 0, .int .i64 0, .int .i64 0, .int .i64 0, .int .i64 0, .int .i64 0, .int .i64 0]) 72 rfl Tryz.underlying31 info77 rfl (by decide) (by omega) (k77_mk w5 (⟨p.f0, (p.f1 : Int), (p.f2 : Int), p.f3, p.f4, p.f5, p.f6, p.f7, p.f8⟩ : S77)) (by rw [List.length_map, List.length_take, Nat.min_eq_left HI.out]) rfl rfl HO.out HB.out (by have := HL.out; have := HM2.out; omega) ?_
   intro A6 c6 wa hs5 hb5 _
   have HO6 := am hs5;have HW6 := am hb5
   refine hK.out _ _ ?_
   clear hK K hs5 hb5
   refine rN ?_
   refine rP 24 ?_
   refine rD ?_
   go_wp2_with fail
   skip
   go_roundg (l.length - (i + 1))
   case measure => exact HM2.out.1
   case rel => exact ⟨i + 1, A6, c6, HM2.out.2.1, HM2.out.2.2, rfl, by first | rfl | rw [b3], ⟨by rw [xdA ofO l i HLT.out, ← HXX.out]; exact HO6.out⟩, HW6⟩
  ·
   have t1 : decide (i < l.length) = false := decide_eq_false hlt
   have he : i = l.length := by omega
   have HE := am he;clear hk hi hlt he
   go_wp2_with fail
   go_ret
   exact ⟨A2, c2, by rw [HE.out]; first | done | rfl, by have h := HO.out; rw [HE.out, List.take_length] at h; exact h, HB.out⟩
end Go.Proofs.YtkabcgmegljebaaGreatDoor.D
