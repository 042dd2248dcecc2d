/- Contracts and facts of functions of the program, joined in one text. -/
import Derived.Test.YtkabcgmegljebaaGreatDoorRGA
import Derived.Test.YtkabcgmegljebaaGreatDoorRGR
import Derived.Test.YtkabcgmegljebaaGreatDoorRGN
set_option maxHeartbeats 8000000
set_option maxRecDepth 100000
set_option linter.unusedVariables false
set_option linter.unusedSimpArgs false
namespace Go.Proofs.YtkabcgmegljebaaGreatDoor.D
open Go.RowKit Go.Proofs.YtkabcgmegljebaaGreatDoorW.PrintWords Go.Proofs.YtkabcgmegljebaaGreatDoorW.PrintLast Go.Proofs.YtkabcgmegljebaaGreatDoorW.PrintMore
open Go.Proofs.YtkabcgmegljebaaGreatDoor.Q Go.Proofs.YtkabcgmegljebaaGreatDoor.H
theorem one_all (o0 : Int) (o1 o2 : Nat) (o3 o4 o5 o6 o7 o8 : Int) (code : List S37) (q : Nat) (fl : List S48) (ms : List Int) (Al Af Am : Option Addr) (cl cf cm : Nat) (w : World) {base bc : Nat} {F L : Nat → Prop}
  (hC : Sl k77 77 w bc L Al cl (code.map ofO)) (hq : q < code.length) (hcq : code[q] = ⟨o0, o1, o2, o3, o4, o5, o6, o7, o8⟩) (hn : code.length ≤ 8192) (hF : Sl k79 79 w base F Af cf (fl.map ofF)) (hM : Sl (Kd.int .i64) 3 w base F Am cm ms) (hl : fl.length ≤ 4096) (hb : base ≤ w.heap.size) (hk : 1 ≤ o0 ∧ o0 ≤ 7) (hml : ms.length ≤ 8192) (hbi : o1 < 18446744073709551616 ∧ o2 < 18446744073709551616) (hk3 : o0 = 3 → (1 ≤ o6 ∧ o6 ≤ 5) ∧ (1 ≤ o5 ∧ o5 ≤ 8) ∧ numB o1 = true ∧ numB o2 = true ∧ SpO o3 o4 o7) (hne : 4 ≤ o0 → ms ≠ []) (hp : ∀ m ∈ ms, 0 ≤ m) (htu : 4 ≤ o0 → ∀ w', Below w.heap.size w w' → Calls Tryz.prog 65 #[.slice Af fl.length cf, .int .i64 (lastM ms : Int), (.agg #[.int .i64 (tk o0), .int .i64 0, .int .i64 0, .int .u64 (o1 : Int), .int .u64 (o2 : Int), .int .i64 o3, .int .i64 o4, .int .i64 o5, .int .i64 o6, .int .i64 o7, .int .i64 o8])] w' fun e w'' => ∃ A' c', e = .returned (.tuple #[.slice A' (turnF ⟨o0, o1, o2, o3, o4, o5, o6, o7, o8⟩ fl (lastM ms)).1.length c', .int .i64 (turnF ⟨o0, o1, o2, o3, o4, o5, o6, o7, o8⟩ fl (lastM ms)).2]) ∧ Own k79 79 w' w'' A' c' ((turnF ⟨o0, o1, o2, o3, o4, o5, o6, o7, o8⟩ fl (lastM ms)).1.map ofF) ∧ Below w'.heap.size w' w'') :
  Calls Tryz.prog 39 #[(.agg #[.slice Al code.length cl, .int .i64 (q : Int), .slice Af fl.length cf, .slice Am ms.length cm, .bool false, .int .i64 0])] w (OneP base F w Al code.length cl q (doOp (fixF ⟨o0, o1, o2, o3, o4, o5, o6, o7, o8⟩) ⟨o0, o1, o2, o3, o4, o5, o6, o7, o8⟩ fl ms)) := by
 have hb1 : IntKind.i64.wrap ((q : Int) + 1) = ((q : Int) + 1) := by rw [i64_w]; unfold wrap64; omega
 have HB : xaA (Below w.heap.size w w) := ⟨Below.refl _ _⟩
 have HC := am hC;have HF := am hF;have HM := am hM;have HL := am hl;have HBS := am hb;have HN := am hn;have HML := am hml;have HBI := am hbi;have HK3 := am hk3;have HNE := am hne;have HPO := am hp;have HKI := am hk
 have HK := am (takes_c o0 o1 o2 o3 o4 o5 o6 o7 o8)
 have ht := fun w => xiT o0 o1 o2 o3 o4 o5 o6 o7 o8 w
 obtain ⟨tn, htn⟩ : ∃ tn, tn = tk o0 := ⟨_, rfl⟩
 rw [← htn] at ht htu
 have HT := am ht;have HTU := am htu;clear htn ht htu hk3 hne hp hbi hml hk hC hF hM hl hb hn
 go_enter Tryz.func39, Tryz.ntmps39
 go_upto_region 1 with (first | ((with_reducible refine xaJ (N := 1) rfl ?_); refine bxv 1 #[.slice Al code.length cl, .int .i64 (q : Int), .slice Af fl.length cf, .slice Am ms.length cm, .bool false, .int .i64 0] 51 ?_; intro m hg w1 hbox hb; have Bm := am hbox; have HBm := HB; replace HB := am (xaC HB.out hb); have HGm := am hg; have HLm := am (xaM hbox); clear hb hbox hg) | ((with_reducible refine xaJ (N := 2) rfl ?_); refine bxv 2 #[.slice none 0 0, .int .i64 0, .slice none 0 0, .slice none 0 0, .bool false, .int .i64 0] 51 ?_; intro r hg w2 hbox hb; have Br := am hbox; replace Bm := am (xaD Bm.out hb); have HBr := HB; replace HB := am (xaC HB.out hb); have HGr := am hg; have HLr := am (xaM hbox); clear hb hbox hg))
 have hm0 : xaA (w.heap.size ≤ m ∧ m < r ∧ w.heap.size ≤ r) := ⟨by have h1 := HGm.out; have h2 := HGr.out; have h3 := HLm.out; have h4 := HLr.out; omega⟩
 obtain ⟨ad, had, hop⟩ := at_op (HC.out.below HB.out).C q hq (by rw [List.length_map])
 rw [hcq] at hop
 subst had
 obtain ⟨h0, h1, h2, h3, h4, h5, h6, h7, h8⟩ := hop
 clear HBm HBr HGm HGr
 have cm_0 : w2.cell? ⟨m, 0, none⟩ = some (.slice (some ad) code.length cl) := (xaB Bm.out 0).trans rfl
 have cm_1 : w2.cell? ⟨m, 1, none⟩ = some (.int .i64 (q : Int)) := (xaB Bm.out 1).trans rfl
 have cm_2 : w2.cell? ⟨m, 2, none⟩ = some (.slice Af fl.length cf) := (xaB Bm.out 2).trans rfl
 have cm_3 : w2.cell? ⟨m, 3, none⟩ = some (.slice Am ms.length cm) := (xaB Bm.out 3).trans rfl
 have cm_4 : w2.cell? ⟨m, 4, none⟩ = some (.bool false) := (xaB Bm.out 4).trans rfl
 have cm_5 : w2.cell? ⟨m, 5, none⟩ = some (.int .i64 0) := (xaB Bm.out 5).trans rfl
 skip
 go_upto_region 2 with ((with_reducible refine xaJ (N := 3) rfl ?_); refine bxv 3 #[.int .i64 0, .int .u64 0, .int .u64 0, .int .i64 0, .int .i64 0, .int .i64 0, .int .i64 0, .int .i64 0, .int .i64 0] 77 ?_; intro o hg w3 hbox hb; have Bo := am hbox; replace Bm := am (xaD Bm.out hb); replace Br := am (xaD Br.out hb); have HBo := HB; replace HB := am (xaC HB.out hb); have HGo := am hg; have HLo := am (xaM hbox); clear hb hbox hg; have co_ := cz9 Bo)
 skip
 have ho0 : xaA (w.heap.size ≤ o ∧ m < o ∧ r < o) := ⟨by have h1 := HGo.out; have h2 := hm0.out; have h3 := HLr.out; have h4 := HLm.out; have h5 := HBo.out.size; omega⟩
 have hno1 : m ≠ o := by have := ho0.out; omega
 have hno2 : r ≠ o := by have := ho0.out; omega
 clear HBo HGo HLm HLr cm_0 cm_1 cm_2 cm_3 cm_4 cm_5 h0 h1 h2 h3 h4 h5 h6 h7 h8
 obtain ⟨w4, hwz⟩ : ∃ w4, setL w3 o 0 [.int .i64 o0, .int .u64 (o1 : Int), .int .u64 (o2 : Int), .int .i64 o3, .int .i64 o4, .int .i64 o5, .int .i64 o6, .int .i64 o7, .int .i64 o8] = w4 := ⟨_, rfl⟩
 replace Bo := am (hwz ▸ xbD (vs := [.int .i64 o0, .int .u64 (o1 : Int), .int .u64 (o2 : Int), .int .i64 o3, .int .i64 o4, .int .i64 o5, .int .i64 o6, .int .i64 o7, .int .i64 o8]) Bo.out rfl)
 replace Bm := am (hwz ▸ (xaW hno1 [.int .i64 o0, .int .u64 (o1 : Int), .int .u64 (o2 : Int), .int .i64 o3, .int .i64 o4, .int .i64 o5, .int .i64 o6, .int .i64 o7, .int .i64 o8] 0 w3).trans Bm.out)
 replace Br := am (hwz ▸ (xaW hno2 [.int .i64 o0, .int .u64 (o1 : Int), .int .u64 (o2 : Int), .int .i64 o3, .int .i64 o4, .int .i64 o5, .int .i64 o6, .int .i64 o7, .int .i64 o8] 0 w3).trans Br.out)
 replace HB := am (hwz ▸ xaY ho0.out.1 [.int .i64 o0, .int .u64 (o1 : Int), .int .u64 (o2 : Int), .int .i64 o3, .int .i64 o4, .int .i64 o5, .int .i64 o6, .int .i64 o7, .int .i64 o8] 0 _ HB.out)
 simp only [setL, Nat.reduceAdd] at hwz
 rw [hwz]
 clear hwz HLo co_
 have cm_0 : w4.cell? ⟨m, 0, none⟩ = some (.slice (some ad) code.length cl) := (xaB Bm.out 0).trans rfl
 have zm_0 := xaE Bm.out 0
 have cm_1 : w4.cell? ⟨m, 1, none⟩ = some (.int .i64 (q : Int)) := (xaB Bm.out 1).trans rfl
 have zm_1 := xaE Bm.out 1
 have cm_2 : w4.cell? ⟨m, 2, none⟩ = some (.slice Af fl.length cf) := (xaB Bm.out 2).trans rfl
 have zm_2 := xaE Bm.out 2
 have cm_3 : w4.cell? ⟨m, 3, none⟩ = some (.slice Am ms.length cm) := (xaB Bm.out 3).trans rfl
 have zm_3 := xaE Bm.out 3
 have cm_4 : w4.cell? ⟨m, 4, none⟩ = some (.bool false) := (xaB Bm.out 4).trans rfl
 have zm_4 := xaE Bm.out 4
 have cm_5 : w4.cell? ⟨m, 5, none⟩ = some (.int .i64 0) := (xaB Bm.out 5).trans rfl
 have zm_5 := xaE Bm.out 5
 go_upto_region 3 with fail
 skip
 obtain ⟨w5, hwz⟩ : ∃ w5, w4.setCell ⟨m, 1, none⟩ (.int .i64 ((q : Int) + 1)) = w5 := ⟨_, rfl⟩
 replace Bm := am (hwz ▸ xaN Bm.out 1 (.int .i64 ((q : Int) + 1)) rfl)
 replace Bo := am (hwz ▸ (Below.heap_setCell w4 ⟨m, 1, none⟩ _ o (fun e => hno1 e.symm)).trans Bo.out)
 replace Br := am (hwz ▸ (Below.heap_setCell w4 ⟨m, 1, none⟩ (.int .i64 ((q : Int) + 1)) r (by have := hm0.out; show r ≠ m; omega)).trans Br.out)
 replace HB := am (hwz ▸ xaF HB.out hm0.out.1)
 rw [hwz]
 clear hwz cm_0 cm_1 cm_2 cm_3 cm_4 cm_5 zm_0 zm_1 zm_2 zm_3 zm_4 zm_5
 have cm_0 : w5.cell? ⟨m, 0, none⟩ = some (.slice (some ad) code.length cl) := (xaB Bm.out 0).trans rfl
 have cm_1 : w5.cell? ⟨m, 1, none⟩ = some (.int .i64 ((q : Int) + 1)) := (xaB Bm.out 1).trans rfl
 have cm_2 : w5.cell? ⟨m, 2, none⟩ = some (.slice Af fl.length cf) := (xaB Bm.out 2).trans rfl
 have cm_3 : w5.cell? ⟨m, 3, none⟩ = some (.slice Am ms.length cm) := (xaB Bm.out 3).trans rfl
 have cm_4 : w5.cell? ⟨m, 4, none⟩ = some (.bool false) := (xaB Bm.out 4).trans rfl
 have cm_5 : w5.cell? ⟨m, 5, none⟩ = some (.int .i64 0) := (xaB Bm.out 5).trans rfl
 have co_ := ce9 Bo
 go_upto_region 6 with (first | (go_at_call 61; go_loud ((with_reducible refine (HT.out _).mono ?_); rintro z w6 ⟨rfl, hb⟩; replace HB := am (xaC HB.out hb); replace Bm := am (xaD Bm.out hb); replace Bo := am (xaD Bo.out hb); replace Br := am (xaD Br.out hb); have HLs := am (And.intro (xaM Bm.out) (And.intro (xaM Br.out) (xaM Bo.out))); clear hb)) | ((with_reducible refine xaJ (N := 6) rfl ?_); refine bxv 6 #[.int .i64 0, .int .i64 0, .int .i64 0, .int .u64 0, .int .u64 0, .int .i64 0, .int .i64 0, .int .i64 0, .int .i64 0, .int .i64 0, .int .i64 0] 109 ?_; intro t hg w7 hbox hb; have Bt := am hbox; replace Bm := am (xaD Bm.out hb); replace Br := am (xaD Br.out hb); replace Bo := am (xaD Bo.out hb); have HBt := HB; replace HB := am (xaC HB.out hb); have HGt := am hg; have HLt := am (xaM hbox); clear hb hbox hg; obtain ⟨zt_, ct_0, ct_1, ct_2, ct_3, ct_4, ct_5, ct_6, ct_7, ct_8, ct_9, ct_10⟩ := cz11 Bt))
 skip
 have ht0 : xaA (w.heap.size ≤ t ∧ m < t ∧ r < t ∧ o < t) := ⟨by have h1 := HGt.out; have h2 := hm0.out; have h3 := ho0.out; have h4 := HLs.out; omega⟩
 obtain ⟨w8, hwz⟩ : ∃ w8, setL w7 t 0 [.int .i64 tn, .int .i64 0, .int .i64 0, .int .u64 (o1 : Int), .int .u64 (o2 : Int), .int .i64 o3, .int .i64 o4, .int .i64 o5, .int .i64 o6, .int .i64 o7, .int .i64 o8] = w8 := ⟨_, rfl⟩
 replace Bt : xaA (w8.heap[t]? = some (.cells #[.int .i64 tn, .int .i64 0, .int .i64 0, .int .u64 (o1 : Int), .int .u64 (o2 : Int), .int .i64 o3, .int .i64 o4, .int .i64 o5, .int .i64 o6, .int .i64 o7, .int .i64 o8] 109 (0, 0))) := ⟨hwz ▸ xbD (vs := [.int .i64 tn, .int .i64 0, .int .i64 0, .int .u64 (o1 : Int), .int .u64 (o2 : Int), .int .i64 o3, .int .i64 o4, .int .i64 o5, .int .i64 o6, .int .i64 o7, .int .i64 o8]) Bt.out rfl⟩
 replace Bm : xaA (w8.heap[m]? = some (.cells #[.slice (some ad) code.length cl, .int .i64 ((q : Int) + 1), .slice Af fl.length cf, .slice Am ms.length cm, .bool false, .int .i64 0] 51 (0, 0))) := ⟨hwz ▸ (xaW (show m ≠ t by have := ht0.out; omega) [.int .i64 tn, .int .i64 0, .int .i64 0, .int .u64 (o1 : Int), .int .u64 (o2 : Int), .int .i64 o3, .int .i64 o4, .int .i64 o5, .int .i64 o6, .int .i64 o7, .int .i64 o8] 0 w7).trans Bm.out⟩
 replace Br := am (hwz ▸ (xaW (show r ≠ t by have := ht0.out; omega) [.int .i64 tn, .int .i64 0, .int .i64 0, .int .u64 (o1 : Int), .int .u64 (o2 : Int), .int .i64 o3, .int .i64 o4, .int .i64 o5, .int .i64 o6, .int .i64 o7, .int .i64 o8] 0 w7).trans Br.out)
 replace Bo := am (hwz ▸ (xaW (show o ≠ t by have := ht0.out; omega) [.int .i64 tn, .int .i64 0, .int .i64 0, .int .u64 (o1 : Int), .int .u64 (o2 : Int), .int .i64 o3, .int .i64 o4, .int .i64 o5, .int .i64 o6, .int .i64 o7, .int .i64 o8] 0 w7).trans Bo.out)
 replace HB := am (hwz ▸ xaY ht0.out.1 [.int .i64 tn, .int .i64 0, .int .i64 0, .int .u64 (o1 : Int), .int .u64 (o2 : Int), .int .i64 o3, .int .i64 o4, .int .i64 o5, .int .i64 o6, .int .i64 o7, .int .i64 o8] 0 _ HB.out)
 simp only [setL, Nat.reduceAdd] at hwz
 rw [hwz]
 clear hwz HBt HGt HLt HLs ct_0 ct_1 ct_2 ct_3 ct_4 ct_5 ct_6 ct_7 ct_8 ct_9 ct_10 zt_ cm_0 cm_1 cm_2 cm_3 cm_4 cm_5 co_
 have cm_0 : w8.cell? ⟨m, 0, none⟩ = some (.slice (some ad) code.length cl) := (xaB Bm.out 0).trans rfl
 have cm_1 : w8.cell? ⟨m, 1, none⟩ = some (.int .i64 ((q : Int) + 1)) := (xaB Bm.out 1).trans rfl
 have cm_2 : w8.cell? ⟨m, 2, none⟩ = some (.slice Af fl.length cf) := (xaB Bm.out 2).trans rfl
 have cm_3 : w8.cell? ⟨m, 3, none⟩ = some (.slice Am ms.length cm) := (xaB Bm.out 3).trans rfl
 have cm_4 : w8.cell? ⟨m, 4, none⟩ = some (.bool false) := (xaB Bm.out 4).trans rfl
 have cm_5 : w8.cell? ⟨m, 5, none⟩ = some (.int .i64 0) := (xaB Bm.out 5).trans rfl
 have co_ := ce9 Bo
 skip
 go_upto_block 0 with fail
 skip
 by_cases h1 : o0 = 1
 ·
  subst h1
  rw [show doOp (fixF ⟨1, o1, o2, o3, o4, o5, o6, o7, o8⟩) ⟨1, o1, o2, o3, o4, o5, o6, o7, o8⟩ fl ms = (fl, ms ++ [(fl.length : Int)], 0) from rfl]
  go_upto_region 11 with ((with_reducible refine xaR (b := .append) (xs := #[.tmp 42, .tmp 44]) rfl ?_); go_loud (refine Sl.app rfl (.tmp 42) (.tmp 44) 49 (.int .i64 0) 8 rfl Tryz.underlying49 info3 rfl (by decide) (by omega) (xs := ([] : List Int)) (n := 0) rfl rfl rfl (Sl.nil _ _ _ _ _) HB.out (HM.out.below HB.out).C (by have := HML.out; omega) ?_; intro A1 c1 wa hs1 hb1 hk1; rw [List.nil_append] at hs1; replace Bm := am (hk1 m _ _ (by decide) Bm.out); replace Br := am (hk1 r _ _ (by decide) Br.out); replace Bo := am (hk1 o _ _ (by decide) Bo.out); have HS1 := am hs1; replace HB := am hb1; clear hs1 hb1 hk1))
  skip
  clear cm_0 cm_1 cm_2 cm_3 cm_4 cm_5
  have cm_0 : wa.cell? ⟨m, 0, none⟩ = some (.slice (some ad) code.length cl) := (xaB Bm.out 0).trans rfl
  have cm_1 : wa.cell? ⟨m, 1, none⟩ = some (.int .i64 ((q : Int) + 1)) := (xaB Bm.out 1).trans rfl
  have cm_2 : wa.cell? ⟨m, 2, none⟩ = some (.slice Af fl.length cf) := (xaB Bm.out 2).trans rfl
  have cm_3 : wa.cell? ⟨m, 3, none⟩ = some (.slice Am ms.length cm) := (xaB Bm.out 3).trans rfl
  have cm_4 : wa.cell? ⟨m, 4, none⟩ = some (.bool false) := (xaB Bm.out 4).trans rfl
  have cm_5 : wa.cell? ⟨m, 5, none⟩ = some (.int .i64 0) := (xaB Bm.out 5).trans rfl
  go_upto_region 12 with ((with_reducible refine xaR (b := .append) (xs := #[.tmp 46, .tmp 49]) rfl ?_); go_loud (refine Sl.app1 rfl (.tmp 46) (.tmp 49) 49 (.int .i64 0) 8 rfl Tryz.underlying49 info3 rfl (by decide) (by omega) (d := Kd.int .i64) (p := (fl.length : Int)) (cs := [.int .i64 (fl.length : Int)]) (show (Kd.int .i64).K _ (fl.length : Int) [.int .i64 (fl.length : Int)] from rfl) (xs := ms) rfl rfl rfl HS1.out HB.out (by have := HML.out; omega) ?_; intro A4 c4 wb hs4 hb4 hk4; replace Bm := am (hk4 m _ _ (by decide) Bm.out); replace Br := am (hk4 r _ _ (by decide) Br.out); replace Bo := am (hk4 o _ _ (by decide) Bo.out); have HSf := am hs4; replace HB := am hb4; clear hs4 hb4 hk4; have cm_0 : wb.cell? ⟨m, 0, none⟩ = some (.slice (some ad) code.length cl) := (xaB Bm.out 0).trans rfl; have zm_0 := xaE Bm.out 0; have cm_1 : wb.cell? ⟨m, 1, none⟩ = some (.int .i64 ((q : Int) + 1)) := (xaB Bm.out 1).trans rfl; have zm_1 := xaE Bm.out 1; have cm_2 : wb.cell? ⟨m, 2, none⟩ = some (.slice Af fl.length cf) := (xaB Bm.out 2).trans rfl; have zm_2 := xaE Bm.out 2; have cm_3 : wb.cell? ⟨m, 3, none⟩ = some (.slice Am ms.length cm) := (xaB Bm.out 3).trans rfl; have zm_3 := xaE Bm.out 3; have cm_4 : wb.cell? ⟨m, 4, none⟩ = some (.bool false) := (xaB Bm.out 4).trans rfl; have zm_4 := xaE Bm.out 4; have cm_5 : wb.cell? ⟨m, 5, none⟩ = some (.int .i64 0) := (xaB Bm.out 5).trans rfl; have zm_5 := xaE Bm.out 5))
  skip
  clear co_ cm_0 cm_1 cm_2 cm_3 cm_4 cm_5 zm_0 zm_1 zm_2 zm_3 zm_4 zm_5
  have HFr : xaA (Fr (own Af) w wb) := ⟨(Fr.refl _ _).below HB.out⟩
  obtain ⟨wc, hwz⟩ : ∃ wc, wb.setCell ⟨m, 3, none⟩ (.slice A4 (ms.length + 1) c4) = wc := ⟨_, rfl⟩
  replace HFr := am (hwz ▸ HFr.out.set (p := ⟨m, 3, none⟩) (.slice A4 (ms.length + 1) c4) (Or.inr hm0.out.1))
  replace HSf := am (hwz ▸ HSf.out.set Bm.out (by decide) 3 (.slice A4 (ms.length + 1) c4))
  replace Br := am (hwz ▸ (Below.heap_setCell wb ⟨m, 3, none⟩ (.slice A4 (ms.length + 1) c4) r (by have := hm0.out; show r ≠ m; omega)).trans Br.out)
  replace HB := am (hwz ▸ xaF HB.out hm0.out.1)
  replace Bm : xaA (wc.heap[m]? = some (.cells #[.slice (some ad) code.length cl, .int .i64 ((q : Int) + 1), .slice Af fl.length cf, .slice A4 (ms.length + 1) c4, .bool false, .int .i64 0] 51 (0, 0))) := ⟨hwz ▸ xaN Bm.out 3 (.slice A4 (ms.length + 1) c4) rfl⟩
  rw [hwz]
  clear hwz
  have cm_0 : wc.cell? ⟨m, 0, none⟩ = some (.slice (some ad) code.length cl) := (xaB Bm.out 0).trans rfl
  have cm_1 : wc.cell? ⟨m, 1, none⟩ = some (.int .i64 ((q : Int) + 1)) := (xaB Bm.out 1).trans rfl
  have cm_2 : wc.cell? ⟨m, 2, none⟩ = some (.slice Af fl.length cf) := (xaB Bm.out 2).trans rfl
  have cm_3 : wc.cell? ⟨m, 3, none⟩ = some (.slice A4 (ms.length + 1) c4) := (xaB Bm.out 3).trans rfl
  have cm_4 : wc.cell? ⟨m, 4, none⟩ = some (.bool false) := (xaB Bm.out 4).trans rfl
  have cm_5 : wc.cell? ⟨m, 5, none⟩ = some (.int .i64 0) := (xaB Bm.out 5).trans rfl
  have cr_ := cz6 Br
  go_wp2_with fail
  skip
  obtain ⟨wd, hwz⟩ : ∃ wd, setL wc r 0 [.slice (some ad) code.length cl, .int .i64 ((q : Int) + 1), .slice Af fl.length cf, .slice A4 (ms.length + 1) c4, .bool false, .int .i64 0] = wd := ⟨_, rfl⟩
  replace HFr := am (hwz ▸ xdG (Or.inr hm0.out.2.2) [.slice (some ad) code.length cl, .int .i64 ((q : Int) + 1), .slice Af fl.length cf, .slice A4 (ms.length + 1) c4, .bool false, .int .i64 0] 0 _ HFr.out)
  replace HSf := am (hwz ▸ xfW (vs := [.slice (some ad) code.length cl, .int .i64 ((q : Int) + 1), .slice Af fl.length cf, .slice A4 (ms.length + 1) c4, .bool false, .int .i64 0]) HSf.out Br.out (by decide) 0)
  replace HB := am (hwz ▸ xaY hm0.out.2.2 [.slice (some ad) code.length cl, .int .i64 ((q : Int) + 1), .slice Af fl.length cf, .slice A4 (ms.length + 1) c4, .bool false, .int .i64 0] 0 _ HB.out)
  replace Br : xaA (wd.heap[r]? = some (.cells #[.slice (some ad) code.length cl, .int .i64 ((q : Int) + 1), .slice Af fl.length cf, .slice A4 (ms.length + 1) c4, .bool false, .int .i64 0] 51 (0, 0))) := ⟨hwz ▸ xbD (vs := [.slice (some ad) code.length cl, .int .i64 ((q : Int) + 1), .slice Af fl.length cf, .slice A4 (ms.length + 1) c4, .bool false, .int .i64 0]) Br.out rfl⟩
  simp only [setL, Nat.reduceAdd] at hwz
  rw [hwz]
  clear hwz cr_;have cr_ := ce6 Br
  refine bodyPost_ret (v := .agg #[.slice (some ad) code.length cl, .int .i64 ((q : Int) + 1), .slice Af fl.length cf, .slice A4 (ms.length + 1) c4, .bool false, .int .i64 0]) (by simp [results, Tryz.results39, go_sem, cr_]) rfl ?_
  exact ⟨Af, cf, A4, c4, by rw [List.length_append]; first | done | rfl, (HF.out.below HB.out).mono (fun k hk _ => Or.inl hk), own_gr HSf.out HBS.out, (Fr.refl _ w).below HB.out⟩
 have g1 : (o0 == 1) = false := beq_eq_false_iff_ne.2 h1
 obtain ⟨⟨tl, te⟩, hT⟩ : ∃ R, R = tryO (fixF ⟨o0, o1, o2, o3, o4, o5, o6, o7, o8⟩) ⟨o0, o1, o2, o3, o4, o5, o6, o7, o8⟩ fl ms := ⟨_, rfl⟩
 have HRR : xaA (doOp (fixF ⟨o0, o1, o2, o3, o4, o5, o6, o7, o8⟩) ⟨o0, o1, o2, o3, o4, o5, o6, o7, o8⟩ fl ms = if te = 0 then (tl, if 4 ≤ o0 then ms.dropLast else ms, 0) else (fl, ms, te)) := ⟨by rw [do_try _ _ _ _ (show o0 ≠ 1 from h1) HKI.out HL.out, ← hT]⟩
 go_cut [4, 5] from 26 to 97 (fun v4 v5 w' => ∃ (A' : Option Addr) (c' n' : Nat), v4 = .slice A' n' c' ∧ v5 = .int .i64 te ∧ xaA (w'.heap[m]? = some (.cells #[.slice (some ad) code.length cl, .int .i64 ((q : Int) + 1), .slice Af fl.length cf, .slice Am ms.length cm, .bool false, .int .i64 0] 51 (0, 0))) ∧ xaA (w'.heap[r]? = some (.cells #[.slice none 0 0, .int .i64 0, .slice none 0 0, .slice none 0 0, .bool false, .int .i64 0] 51 (0, 0))) ∧ xaA (w'.heap[o]? = some (.cells #[.int .i64 o0, .int .u64 (o1 : Int), .int .u64 (o2 : Int), .int .i64 o3, .int .i64 o4, .int .i64 o5, .int .i64 o6, .int .i64 o7, .int .i64 o8] 77 (0, 0))) ∧ xaA (te = 0 → n' = tl.length ∧ Sl k79 79 w' base (Gr F w.heap.size w'.heap.size) A' c' (tl.map ofF)) ∧ xaA (te ≠ 0 → Below w.heap.size w w') ∧ xaA (Fr (own Af) w w'))
 case first =>
  by_cases h2 : o0 = 2
  ·
   subst h2
   have hq : pushF fl [(⟨o3, o1, o5⟩ : S48)] = (tl, te) := by rw [hT]; unfold tryO; rw [if_pos rfl]
   have hpu := fun (w' : World) A B c d hs hg hb => push_any (n := fl.length) (m := 1) (fl := fl) (gl := [(⟨o3, o1, o5⟩ : S48)]) (base := base) (F := F) A B c d w' rfl rfl hs hg HL.out (by simp) hb
   rw [hq] at hpu
   simp only at hpu
   have HPU := am hpu;clear hpu hq hT
   go_wp2_with (go_at_call 62; go_loud ((with_reducible refine (HPU.out (w8.alloc (.cells #[.int .i64 o3, .int .u64 (o1 : Int), .int .i64 o5] 79)) _ _ _ _ ((HF.out.below HB.out).below (xaH (Below.refl _ _) (.cells #[.int .i64 o3, .int .u64 (o1 : Int), .int .i64 o5] 79))) (lit1 w8 o3 o1 o5) (Nat.le_trans HBS.out (xaH HB.out (.cells #[.int .i64 o3, .int .u64 (o1 : Int), .int .i64 o5] 79)).size)).mono ?_); rintro z wp ⟨A5, c5, n5, rfl, hs, he_, hf⟩; have HSf := am hs; have HE := am he_; have HFr := am ((((Fr.refl (own Af) w).below HB.out).alloc _).step hf); replace Bm := am (hf.blk (xaT Bm.out _) ((HF.out.below HB.out).xeK Bm.out (by decide))); replace Br := am (hf.blk (xaT Br.out _) ((HF.out.below HB.out).xeK Br.out (by decide))); replace Bo := am (hf.blk (xaT Bo.out _) ((HF.out.below HB.out).xeK Bo.out (by decide))); clear hs he_ hf))
   skip
   go_meet
   case rel => exact ⟨A5, c5, n5, rfl, rfl, Bm, Br, Bo, ⟨fun h => ⟨(HSf.out h).1, sl_up (HSf.out h).2 (xaH HB.out _).size⟩⟩, ⟨fun h => by rw [HE.out h]; exact xaH HB.out _⟩, HFr⟩
  ·
   have g2 : (o0 == 2) = false := beq_eq_false_iff_ne.2 h2
   by_cases h3 : o0 = 3
   ·
    subst h3
    obtain ⟨hk6, hcu, hx, hy, hsp⟩ := HK3.out rfl
    have g2 : ((3 : Int) == 2) = false := rfl
    have ht : (tl, te) = (if (legF o6 o5 o1 o2 o3 o4 o7).2 = 0 then pushF fl (legF o6 o5 o1 o2 o3 o4 o7).1 else ([], (legF o6 o5 o1 o2 o3 o4 o7).2)) := by rw [hT]; unfold tryO; rw [if_neg (show ¬ (3 : Int) = 2 by decide), if_pos rfl]; rfl
    have hfx := fun w => fixedD_c o6 o5 o1 o2 o3 o4 o7 w hk6 hcu hx hy HBI.out.1 HBI.out.2 hsp
    have hln := legF_len o6 o5 o1 o2 o3 o4 o7
    have HLG : xaA (∀ w, Calls Tryz.prog 64 #[.int .u64 (o1 : Int), .int .u64 (o2 : Int), .int .i64 o6, .int .i64 o3, .int .i64 o4, .int .i64 o7, .int .i64 o5] w fun e w' => e = .returned (lgV o6 o5 o1 o2 o3 o4 o7) ∧ Below w.heap.size w w') := ⟨fun w => leg_c o6 o5 o1 o2 o3 o4 o7 w⟩
    clear hT hk6 hcu hx hy hsp h2
    obtain ⟨⟨rl, re⟩, hR⟩ : ∃ R, R = legF o6 o5 o1 o2 o3 o4 o7 := ⟨_, rfl⟩
    rw [← hR] at hfx hln ht
    clear hR
    obtain ⟨lg, hlg⟩ : ∃ lg, lg = lgV o6 o5 o1 o2 o3 o4 o7 := ⟨_, rfl⟩
    rw [← hlg] at hfx HLG
    clear hlg
    obtain ⟨rn, hrn⟩ : ∃ rn, rn = rl.length := ⟨_, rfl⟩
    simp only at hfx hln ht
    rw [← hrn] at hfx
    have HGL : xaA ((rl.map ofF).length = rl.length) := ⟨List.length_map _⟩
    have HFX := am hfx
    by_cases hre : re = 0
    ·
     rw [if_pos hre] at ht
     subst hre
     have hpu := fun (w' : World) A B c d hs hg hb => push_any (n := fl.length) (m := rn) (fl := fl) (gl := rl) (base := base) (F := F) A B c d w' rfl hrn hs hg HL.out hln hb
     rw [← ht] at hpu
     simp only at hpu
     have HPU := am hpu;clear hpu ht hfx hln hrn
     go_wp2_with (first | (go_at_call 64; go_loud ((with_reducible refine (HLG.out _).mono ?_); rintro z w9 ⟨rfl, hb⟩; replace HB := am (xaC HB.out hb); replace Bm := am (xaD Bm.out hb); replace Br := am (xaD Br.out hb); replace Bo := am (xaD Bo.out hb); clear hb)) | (go_at_call 63; go_loud ((with_reducible refine (HFX.out _).mono ?_); rintro z wf ⟨A3, c3, rfl, hs, hb⟩; replace HB := am (xaC HB.out hb); replace Bm := am (xaD Bm.out hb); replace Br := am (xaD Br.out hb); replace Bo := am (xaD Bo.out hb); have HC3 := am (Sl.C hs); clear hs hb)) | (go_at_call 62; go_loud ((with_reducible refine (HPU.out wf _ _ _ _ (HF.out.below HB.out) (HGL.out ▸ HC3.out) (Nat.le_trans HBS.out HB.out.size)).mono ?_); rintro z wp ⟨A5, c5, n5, rfl, hs, he_, hf⟩; have HSf := am hs; have HE := am he_; have HFr := am (((Fr.refl (own Af) w).below HB.out).step hf); replace Bm := am (hf.blk (Bm.out) ((HF.out.below HB.out).xeK Bm.out (by decide))); replace Br := am (hf.blk (Br.out) ((HF.out.below HB.out).xeK Br.out (by decide))); replace Bo := am (hf.blk (Bo.out) ((HF.out.below HB.out).xeK Bo.out (by decide))); clear hs he_ hf)))
     skip
     go_meet
     case rel => exact ⟨A5, c5, n5, rfl, rfl, Bm, Br, Bo, ⟨fun h => ⟨(HSf.out h).1, sl_up (HSf.out h).2 HB.out.size⟩⟩, ⟨fun h => by rw [HE.out h]; exact HB.out⟩, HFr⟩
    ·
     rw [if_neg hre] at ht
     have t1 : (re == 0) = false := beq_eq_false_iff_ne.2 hre
     obtain ⟨rfl, rfl⟩ : tl = [] ∧ te = re := ⟨congrArg Prod.fst ht, congrArg Prod.snd ht⟩
     have HRE := am hre;clear ht hfx hln hrn hre
     go_wp2_with (first | (go_at_call 64; go_loud ((with_reducible refine (HLG.out _).mono ?_); rintro z w9 ⟨rfl, hb⟩; replace HB := am (xaC HB.out hb); replace Bm := am (xaD Bm.out hb); replace Br := am (xaD Br.out hb); replace Bo := am (xaD Bo.out hb); clear hb)) | (go_at_call 63; go_loud ((with_reducible refine (HFX.out _).mono ?_); rintro z wf ⟨A3, c3, rfl, hs, hb⟩; replace HB := am (xaC HB.out hb); replace Bm := am (xaD Bm.out hb); replace Br := am (xaD Br.out hb); replace Bo := am (xaD Bo.out hb); have HC3 := am (Sl.C hs); clear hs hb)))
     skip
     go_meet
     case rel => exact ⟨Af, cf, fl.length, rfl, rfl, Bm, Br, Bo, ⟨fun h => absurd h HRE.out⟩, ⟨fun _ => HB.out⟩, ⟨(Fr.refl _ _).below HB.out⟩⟩
   ·
    have h4 : 4 ≤ o0 := by have := HKI.out; omega
    clear co_ cm_0 cm_1 cm_2 cm_3 cm_4 cm_5
    obtain ⟨adm, k, had, hmk, hk1, hk2, hk3, hk4, hk5, hk6, hk7⟩ := xjA HM.out (HNE.out h4) HPO.out HML.out
    subst had
    have hq : turnF ⟨o0, o1, o2, o3, o4, o5, o6, o7, o8⟩ fl (lastM ms) = (tl, te) := by rw [hT]; unfold tryO; rw [if_neg (show ¬ o0 = 2 by omega), if_neg (show ¬ o0 = 3 by omega)]
    have htu := HTU.out h4
    rw [hq] at htu
    simp only at htu
    have g3 : (o0 == 3) = false := beq_eq_false_iff_ne.2 h3
    obtain ⟨lm, hlm⟩ : ∃ lm, lm = lastM ms := ⟨_, rfl⟩
    rw [← hlm] at hmk htu
    obtain ⟨tln, htln⟩ : ∃ tln, tln = tl.length := ⟨_, rfl⟩
    rw [← htln] at htu
    have HTL := am htln;have HTW := am htu;clear htu hT hq hlm htln h2 h3 hk1 hk6 hk7;have hmk0 := hmk
    replace hmk := (HB.out.cell (clt hmk0)).trans hmk0
    clear hmk0
    have cm_3 : w8.cell? ⟨m, 3, none⟩ = some (.slice (some adm) ms.length cm) := (xaB Bm.out 3).trans rfl
    obtain ⟨ct_0, ct_1, ct_2, ct_3, ct_4, ct_5, ct_6, ct_7, ct_8, ct_9, ct_10⟩ := ce11 Bt
    go_upto_region 7 with fail
    skip
    refine xbL (n := 16) (S := fun w' => w'.cell? ⟨m, 3, none⟩ = some (.slice (some adm) ms.length cm) ∧ w'.cell? (adm.add k) = some (.int .i64 (lm : Int)) ∧ w'.cell? ⟨t, 0, none⟩ = some (.int .i64 tn) ∧ w'.cell? ⟨t, 1, none⟩ = some (.int .i64 0) ∧ w'.cell? ⟨t, 2, none⟩ = some (.int .i64 0) ∧ w'.cell? ⟨t, 3, none⟩ = some (.int .u64 (o1 : Int)) ∧ w'.cell? ⟨t, 4, none⟩ = some (.int .u64 (o2 : Int)) ∧ w'.cell? ⟨t, 5, none⟩ = some (.int .i64 o3) ∧ w'.cell? ⟨t, 6, none⟩ = some (.int .i64 o4) ∧ w'.cell? ⟨t, 7, none⟩ = some (.int .i64 o5) ∧ w'.cell? ⟨t, 8, none⟩ = some (.int .i64 o6) ∧ w'.cell? ⟨t, 9, none⟩ = some (.int .i64 o7) ∧ w'.cell? ⟨t, 10, none⟩ = some (.int .i64 o8)) (ds := [10]) #[false, false, false, false, false, false, false, false, false, false, false, false, false, false, false, false] (by kernel_rfl) rfl rfl ⟨cm_3, hmk, ct_0, ct_1, ct_2, ct_3, ct_4, ct_5, ct_6, ct_7, ct_8, ct_9, ct_10⟩ (fun hHeld => ?_)
    replace HB := am (xaK HB.out)
    replace Bm := am (xaP Bm.out)
    replace Br := am (xaP Br.out)
    replace Bo := am (xaP Bo.out)
    clear cm_3 hmk ct_0 ct_1 ct_2 ct_3 ct_4 ct_5 ct_6 ct_7 ct_8 ct_9 ct_10 Bt
    generalize w8.drew = ws at *
    refine rP 0 ?_
    refine rP 1 ?_
    refine rT 2 ?_
    refine rP 3 ?_
    refine rT 4 ?_
    refine rP 5 ?_
    refine rP 6 ?_
    refine rP 7 ?_
    refine rT 8 ?_
    refine rT 9 ?_
    clear hHeld
    refine rL 10 (fun K hK => ?_)
    refine goes_ Tryz.func65 (by kernel_rfl) rfl #[.slice Af fl.length cf, .int .i64 (lm : Int), (.agg #[.int .i64 tn, .int .i64 0, .int .i64 0, .int .u64 (o1 : Int), .int .u64 (o2 : Int), .int .i64 o3, .int .i64 o4, .int .i64 o5, .int .i64 o6, .int .i64 o7, .int .i64 o8])] (by rfl) rfl rfl (by (try simp only [List.map_toArray, List.map_cons, List.map_nil]); first | done | rfl) ?_
    with_reducible refine (HTW.out _ HB.out).mono ?_
    rintro z wt ⟨A5, c5, rfl, hs, hb⟩
    refine ⟨_, rfl, ?_⟩
    have HSf : xaA (te = 0 → tln = tl.length ∧ _) := am (fun _ => ⟨HTL.out, sl_up (own_gr (F := F) hs (Nat.le_trans HBS.out HB.out.size)) HB.out.size⟩)
    have HFr : xaA (Fr (own Af) w wt) := ⟨((Fr.refl _ _).below HB.out).below hb⟩
    replace HB := am (xaC HB.out hb)
    replace Bm := am (xaD Bm.out hb)
    replace Br := am (xaD Br.out hb)
    replace Bo := am (xaD Bo.out hb)
    clear hs hb
    refine hK.out _ _ ?_
    clear hK K
    refine rN ?_
    refine rP 11 ?_
    refine rP 12 ?_
    refine rP 13 ?_
    refine rP 14 ?_
    refine rP 15 ?_
    refine rD ?_
    go_wp2_with fail
    skip
    go_meet
    case rel => exact ⟨A5, c5, tln, rfl, rfl, Bm, Br, Bo, HSf, ⟨fun _ => HB.out⟩, HFr⟩
 case rest =>
  clear hT Bm Br Bo Bt HB co_ cm_0 cm_1 cm_2 cm_3 cm_4 cm_5
  obtain ⟨A5, c5, n5, rfl, rfl, Bm, Br, Bo, HSf, HE, HFr⟩ := hcut
  have cm_0 : wc.cell? ⟨m, 0, none⟩ = some (.slice (some ad) code.length cl) := (xaB Bm.out 0).trans rfl
  have cm_1 : wc.cell? ⟨m, 1, none⟩ = some (.int .i64 ((q : Int) + 1)) := (xaB Bm.out 1).trans rfl
  have cm_2 : wc.cell? ⟨m, 2, none⟩ = some (.slice Af fl.length cf) := (xaB Bm.out 2).trans rfl
  have cm_3 : wc.cell? ⟨m, 3, none⟩ = some (.slice Am ms.length cm) := (xaB Bm.out 3).trans rfl
  have cm_4 : wc.cell? ⟨m, 4, none⟩ = some (.bool false) := (xaB Bm.out 4).trans rfl
  have cm_5 : wc.cell? ⟨m, 5, none⟩ = some (.int .i64 0) := (xaB Bm.out 5).trans rfl
  have co_ := ce9 Bo
  by_cases hte : te = 0
  ·
   subst hte
   obtain ⟨htn, hsf⟩ := HSf.out rfl
   have HTN := am htn;replace HSf := am hsf;clear hsf htn HE
   cases htk : xfT o0 with
   | true =>
    have h4 : 4 ≤ o0 := by unfold xfT at htk; simp at htk; omega
    rw [htk] at HK
    obtain ⟨adm, k, had, hmk, hk1, hk2, hk3, hk4, hk5, hk6, hk7⟩ := xjA HM.out (HNE.out h4) HPO.out HML.out
    subst had
    have HMS : xaA (ms.dropLast = ms.take k ∧ ms.dropLast.length = k) := ⟨hk7, hk6⟩
    have H4 := am h4;have HK1 := am hk1;clear htk hmk hk1 hk6 hk7 h4
    go_upto_if 105 with (go_at_call 60; go_loud ((with_reducible refine (HK.out _).mono ?_); rintro z w9 ⟨rfl, hb⟩; replace HFr := am (HFr.out.below hb); replace HSf := am (HSf.out.below hb); replace Bm := am (xaD Bm.out hb); replace Br := am (xaD Br.out hb); replace Bo := am (xaD Bo.out hb); clear hb))
    clear co_ cm_0 cm_1 cm_2 cm_3 cm_4 cm_5
    have cm_0 : w9.cell? ⟨m, 0, none⟩ = some (.slice (some ad) code.length cl) := (xaB Bm.out 0).trans rfl
    have zm_0 := xaE Bm.out 0
    have cm_1 : w9.cell? ⟨m, 1, none⟩ = some (.int .i64 ((q : Int) + 1)) := (xaB Bm.out 1).trans rfl
    have zm_1 := xaE Bm.out 1
    have cm_2 : w9.cell? ⟨m, 2, none⟩ = some (.slice Af fl.length cf) := (xaB Bm.out 2).trans rfl
    have zm_2 := xaE Bm.out 2
    have cm_3 : w9.cell? ⟨m, 3, none⟩ = some (.slice (some adm) ms.length cm) := (xaB Bm.out 3).trans rfl
    have zm_3 := xaE Bm.out 3
    have cm_4 : w9.cell? ⟨m, 4, none⟩ = some (.bool false) := (xaB Bm.out 4).trans rfl
    have zm_4 := xaE Bm.out 4
    have cm_5 : w9.cell? ⟨m, 5, none⟩ = some (.int .i64 0) := (xaB Bm.out 5).trans rfl
    have zm_5 := xaE Bm.out 5
    go_upto_region 26 with fail
    skip
    obtain ⟨wc2, hwz⟩ : ∃ wc2, w9.setCell ⟨m, 3, none⟩ (.slice (some adm) k cm) = wc2 := ⟨_, rfl⟩
    replace HFr := am (hwz ▸ HFr.out.set (p := ⟨m, 3, none⟩) (.slice (some adm) k cm) (Or.inr hm0.out.1))
    replace HSf := am (hwz ▸ HSf.out.set Bm.out (by decide) 3 (.slice (some adm) k cm))
    replace Br := am (hwz ▸ (Below.heap_setCell w9 ⟨m, 3, none⟩ (.slice (some adm) k cm) r (by have := hm0.out; show r ≠ m; omega)).trans Br.out)
    replace Bm : xaA (wc2.heap[m]? = some (.cells #[.slice (some ad) code.length cl, .int .i64 ((q : Int) + 1), .slice Af fl.length cf, .slice (some adm) k cm, .bool false, .int .i64 0] 51 (0, 0))) := ⟨hwz ▸ xaN Bm.out 3 (.slice (some adm) k cm) rfl⟩
    rw [hwz]
    clear hwz cm_0 cm_1 cm_2 cm_3 cm_4 cm_5 zm_0 zm_1 zm_2 zm_3 zm_4 zm_5
    have cm_0 : wc2.cell? ⟨m, 0, none⟩ = some (.slice (some ad) code.length cl) := (xaB Bm.out 0).trans rfl
    have zm_0 := xaE Bm.out 0
    have cm_1 : wc2.cell? ⟨m, 1, none⟩ = some (.int .i64 ((q : Int) + 1)) := (xaB Bm.out 1).trans rfl
    have zm_1 := xaE Bm.out 1
    have cm_2 : wc2.cell? ⟨m, 2, none⟩ = some (.slice Af fl.length cf) := (xaB Bm.out 2).trans rfl
    have zm_2 := xaE Bm.out 2
    have cm_3 : wc2.cell? ⟨m, 3, none⟩ = some (.slice (some adm) k cm) := (xaB Bm.out 3).trans rfl
    have zm_3 := xaE Bm.out 3
    have cm_4 : wc2.cell? ⟨m, 4, none⟩ = some (.bool false) := (xaB Bm.out 4).trans rfl
    have zm_4 := xaE Bm.out 4
    have cm_5 : wc2.cell? ⟨m, 5, none⟩ = some (.int .i64 0) := (xaB Bm.out 5).trans rfl
    have zm_5 := xaE Bm.out 5
    go_upto_region 27 with fail
    obtain ⟨wd, hwz⟩ : ∃ wd, wc2.setCell ⟨m, 2, none⟩ (.slice A5 n5 c5) = wd := ⟨_, rfl⟩
    replace HFr := am (hwz ▸ HFr.out.set (p := ⟨m, 2, none⟩) (.slice A5 n5 c5) (Or.inr hm0.out.1))
    replace HSf := am (hwz ▸ HSf.out.set Bm.out (by decide) 2 (.slice A5 n5 c5))
    replace Br := am (hwz ▸ (Below.heap_setCell wc2 ⟨m, 2, none⟩ (.slice A5 n5 c5) r (by have := hm0.out; show r ≠ m; omega)).trans Br.out)
    replace Bm : xaA (wd.heap[m]? = some (.cells #[.slice (some ad) code.length cl, .int .i64 ((q : Int) + 1), .slice A5 n5 c5, .slice (some adm) k cm, .bool false, .int .i64 0] 51 (0, 0))) := ⟨hwz ▸ xaN Bm.out 2 (.slice A5 n5 c5) rfl⟩
    rw [hwz]
    clear hwz cm_0 cm_1 cm_2 cm_3 cm_4 cm_5 zm_0 zm_1 zm_2 zm_3 zm_4 zm_5
    have cm_0 : wd.cell? ⟨m, 0, none⟩ = some (.slice (some ad) code.length cl) := (xaB Bm.out 0).trans rfl
    have cm_1 : wd.cell? ⟨m, 1, none⟩ = some (.int .i64 ((q : Int) + 1)) := (xaB Bm.out 1).trans rfl
    have cm_2 : wd.cell? ⟨m, 2, none⟩ = some (.slice A5 n5 c5) := (xaB Bm.out 2).trans rfl
    have cm_3 : wd.cell? ⟨m, 3, none⟩ = some (.slice (some adm) k cm) := (xaB Bm.out 3).trans rfl
    have cm_4 : wd.cell? ⟨m, 4, none⟩ = some (.bool false) := (xaB Bm.out 4).trans rfl
    have cm_5 : wd.cell? ⟨m, 5, none⟩ = some (.int .i64 0) := (xaB Bm.out 5).trans rfl
    have cr_ := cz6 Br
    go_wp2_with fail
    obtain ⟨we, hwz⟩ : ∃ we, setL wd r 0 [.slice (some ad) code.length cl, .int .i64 ((q : Int) + 1), .slice A5 n5 c5, .slice (some adm) k cm, .bool false, .int .i64 0] = we := ⟨_, rfl⟩
    replace HFr := am (hwz ▸ xdG (Or.inr hm0.out.2.2) [.slice (some ad) code.length cl, .int .i64 ((q : Int) + 1), .slice A5 n5 c5, .slice (some adm) k cm, .bool false, .int .i64 0] 0 _ HFr.out)
    replace HSf := am (hwz ▸ xfW (vs := [.slice (some ad) code.length cl, .int .i64 ((q : Int) + 1), .slice A5 n5 c5, .slice (some adm) k cm, .bool false, .int .i64 0]) HSf.out Br.out (by decide) 0)
    replace Br : xaA (we.heap[r]? = some (.cells #[.slice (some ad) code.length cl, .int .i64 ((q : Int) + 1), .slice A5 n5 c5, .slice (some adm) k cm, .bool false, .int .i64 0] 51 (0, 0))) := ⟨hwz ▸ xbD (vs := [.slice (some ad) code.length cl, .int .i64 ((q : Int) + 1), .slice A5 n5 c5, .slice (some adm) k cm, .bool false, .int .i64 0]) Br.out rfl⟩
    simp only [setL, Nat.reduceAdd] at hwz
    rw [hwz]
    clear hwz cr_;have cr_ := ce6 Br
    refine bodyPost_ret (v := .agg #[.slice (some ad) code.length cl, .int .i64 ((q : Int) + 1), .slice A5 n5 c5, .slice (some adm) k cm, .bool false, .int .i64 0]) (by simp [results, Tryz.results39, go_sem, cr_]) rfl ?_
    show OneP base F w _ code.length cl q _ _ _
    rw [HRR.out, if_pos (by trivial), if_pos H4.out]
    exact ⟨A5, c5, some adm, cm, by rw [HMS.out.2, ← HTN.out]; first | done | rfl, sl_up HSf.out (Nat.le_refl _), by rw [HMS.out.1]; exact ((HM.out.keep HF.out (by decide) HFr.out).mono (fun k hk _ => Or.inl hk)).head k cm (by have := HK1.out; omega) (by omega) (Nat.le_refl _), HFr.out.mono (fun k _ hk => HF.out.own_F k hk)⟩
   | false =>
    have h4 : ¬ 4 ≤ o0 := by unfold xfT at htk; simp at htk; have := HKI.out; omega
    rw [htk] at HK
    have H4 := am h4;clear htk h4
    go_upto_if 105 with (go_at_call 60; go_loud ((with_reducible refine (HK.out _).mono ?_); rintro z w9 ⟨rfl, hb⟩; replace HFr := am (HFr.out.below hb); replace HSf := am (HSf.out.below hb); replace Bm := am (xaD Bm.out hb); replace Br := am (xaD Br.out hb); replace Bo := am (xaD Bo.out hb); clear hb))
    clear co_ cm_0 cm_1 cm_2 cm_3 cm_4 cm_5
    have cm_0 : w9.cell? ⟨m, 0, none⟩ = some (.slice (some ad) code.length cl) := (xaB Bm.out 0).trans rfl
    have zm_0 := xaE Bm.out 0
    have cm_1 : w9.cell? ⟨m, 1, none⟩ = some (.int .i64 ((q : Int) + 1)) := (xaB Bm.out 1).trans rfl
    have zm_1 := xaE Bm.out 1
    have cm_2 : w9.cell? ⟨m, 2, none⟩ = some (.slice Af fl.length cf) := (xaB Bm.out 2).trans rfl
    have zm_2 := xaE Bm.out 2
    have cm_3 : w9.cell? ⟨m, 3, none⟩ = some (.slice Am ms.length cm) := (xaB Bm.out 3).trans rfl
    have zm_3 := xaE Bm.out 3
    have cm_4 : w9.cell? ⟨m, 4, none⟩ = some (.bool false) := (xaB Bm.out 4).trans rfl
    have zm_4 := xaE Bm.out 4
    have cm_5 : w9.cell? ⟨m, 5, none⟩ = some (.int .i64 0) := (xaB Bm.out 5).trans rfl
    have zm_5 := xaE Bm.out 5
    go_upto_region 27 with fail
    obtain ⟨wd, hwz⟩ : ∃ wd, w9.setCell ⟨m, 2, none⟩ (.slice A5 n5 c5) = wd := ⟨_, rfl⟩
    replace HFr := am (hwz ▸ HFr.out.set (p := ⟨m, 2, none⟩) (.slice A5 n5 c5) (Or.inr hm0.out.1))
    replace HSf := am (hwz ▸ HSf.out.set Bm.out (by decide) 2 (.slice A5 n5 c5))
    replace Br := am (hwz ▸ (Below.heap_setCell w9 ⟨m, 2, none⟩ (.slice A5 n5 c5) r (by have := hm0.out; show r ≠ m; omega)).trans Br.out)
    replace Bm : xaA (wd.heap[m]? = some (.cells #[.slice (some ad) code.length cl, .int .i64 ((q : Int) + 1), .slice A5 n5 c5, .slice Am ms.length cm, .bool false, .int .i64 0] 51 (0, 0))) := ⟨hwz ▸ xaN Bm.out 2 (.slice A5 n5 c5) rfl⟩
    rw [hwz]
    clear hwz cm_0 cm_1 cm_2 cm_3 cm_4 cm_5 zm_0 zm_1 zm_2 zm_3 zm_4 zm_5
    have cm_0 : wd.cell? ⟨m, 0, none⟩ = some (.slice (some ad) code.length cl) := (xaB Bm.out 0).trans rfl
    have cm_1 : wd.cell? ⟨m, 1, none⟩ = some (.int .i64 ((q : Int) + 1)) := (xaB Bm.out 1).trans rfl
    have cm_2 : wd.cell? ⟨m, 2, none⟩ = some (.slice A5 n5 c5) := (xaB Bm.out 2).trans rfl
    have cm_3 : wd.cell? ⟨m, 3, none⟩ = some (.slice Am ms.length cm) := (xaB Bm.out 3).trans rfl
    have cm_4 : wd.cell? ⟨m, 4, none⟩ = some (.bool false) := (xaB Bm.out 4).trans rfl
    have cm_5 : wd.cell? ⟨m, 5, none⟩ = some (.int .i64 0) := (xaB Bm.out 5).trans rfl
    have cr_ := cz6 Br
    go_wp2_with fail
    obtain ⟨we, hwz⟩ : ∃ we, setL wd r 0 [.slice (some ad) code.length cl, .int .i64 ((q : Int) + 1), .slice A5 n5 c5, .slice Am ms.length cm, .bool false, .int .i64 0] = we := ⟨_, rfl⟩
    replace HFr := am (hwz ▸ xdG (Or.inr hm0.out.2.2) [.slice (some ad) code.length cl, .int .i64 ((q : Int) + 1), .slice A5 n5 c5, .slice Am ms.length cm, .bool false, .int .i64 0] 0 _ HFr.out)
    replace HSf := am (hwz ▸ xfW (vs := [.slice (some ad) code.length cl, .int .i64 ((q : Int) + 1), .slice A5 n5 c5, .slice Am ms.length cm, .bool false, .int .i64 0]) HSf.out Br.out (by decide) 0)
    replace Br : xaA (we.heap[r]? = some (.cells #[.slice (some ad) code.length cl, .int .i64 ((q : Int) + 1), .slice A5 n5 c5, .slice Am ms.length cm, .bool false, .int .i64 0] 51 (0, 0))) := ⟨hwz ▸ xbD (vs := [.slice (some ad) code.length cl, .int .i64 ((q : Int) + 1), .slice A5 n5 c5, .slice Am ms.length cm, .bool false, .int .i64 0]) Br.out rfl⟩
    simp only [setL, Nat.reduceAdd] at hwz
    rw [hwz]
    clear hwz cr_;have cr_ := ce6 Br
    refine bodyPost_ret (v := .agg #[.slice (some ad) code.length cl, .int .i64 ((q : Int) + 1), .slice A5 n5 c5, .slice Am ms.length cm, .bool false, .int .i64 0]) (by simp [results, Tryz.results39, go_sem, cr_]) rfl ?_
    show OneP base F w _ code.length cl q _ _ _
    rw [HRR.out, if_pos (by trivial), if_neg (Int.not_le.2 H4.out)]
    exact ⟨A5, c5, Am, cm, by rw [← HTN.out]; first | done | rfl, sl_up HSf.out (Nat.le_refl _), (HM.out.keep HF.out (by decide) HFr.out).mono (fun k hk _ => Or.inl hk), HFr.out.mono (fun k _ hk => HF.out.own_F k hk)⟩
  ·
   have t1 : (te != 0) = true := bne_iff_ne.2 hte
   have HB := am (HE.out hte)
   have HTE := am hte;clear hte HE HSf co_ cm_0 cm_1 cm_2 cm_3 cm_4 cm_5
   have cm_0 : wc.cell? ⟨m, 0, none⟩ = some (.slice (some ad) code.length cl) := (xaB Bm.out 0).trans rfl
   have zm_0 := xaE Bm.out 0
   have cm_1 : wc.cell? ⟨m, 1, none⟩ = some (.int .i64 ((q : Int) + 1)) := (xaB Bm.out 1).trans rfl
   have zm_1 := xaE Bm.out 1
   have cm_2 : wc.cell? ⟨m, 2, none⟩ = some (.slice Af fl.length cf) := (xaB Bm.out 2).trans rfl
   have zm_2 := xaE Bm.out 2
   have cm_3 : wc.cell? ⟨m, 3, none⟩ = some (.slice Am ms.length cm) := (xaB Bm.out 3).trans rfl
   have zm_3 := xaE Bm.out 3
   have cm_4 : wc.cell? ⟨m, 4, none⟩ = some (.bool false) := (xaB Bm.out 4).trans rfl
   have zm_4 := xaE Bm.out 4
   have cm_5 : wc.cell? ⟨m, 5, none⟩ = some (.int .i64 0) := (xaB Bm.out 5).trans rfl
   have zm_5 := xaE Bm.out 5
   go_upto_region 22 with fail
   obtain ⟨wx, hwz⟩ : ∃ wx, wc.setCell ⟨m, 4, none⟩ (.bool true) = wx := ⟨_, rfl⟩
   replace HB := am (hwz ▸ xaF HB.out hm0.out.1)
   replace Br := am (hwz ▸ (Below.heap_setCell wc ⟨m, 4, none⟩ (.bool true) r (by have := hm0.out; show r ≠ m; omega)).trans Br.out)
   replace Bm : xaA (wx.heap[m]? = some (.cells #[.slice (some ad) code.length cl, .int .i64 ((q : Int) + 1), .slice Af fl.length cf, .slice Am ms.length cm, .bool true, .int .i64 0] 51 (0, 0))) := ⟨hwz ▸ xaN Bm.out 4 (.bool true) rfl⟩
   rw [hwz]
   clear hwz cm_0 cm_1 cm_2 cm_3 cm_4 cm_5 zm_0 zm_1 zm_2 zm_3 zm_4 zm_5
   have cm_0 : wx.cell? ⟨m, 0, none⟩ = some (.slice (some ad) code.length cl) := (xaB Bm.out 0).trans rfl
   have zm_0 := xaE Bm.out 0
   have cm_1 : wx.cell? ⟨m, 1, none⟩ = some (.int .i64 ((q : Int) + 1)) := (xaB Bm.out 1).trans rfl
   have zm_1 := xaE Bm.out 1
   have cm_2 : wx.cell? ⟨m, 2, none⟩ = some (.slice Af fl.length cf) := (xaB Bm.out 2).trans rfl
   have zm_2 := xaE Bm.out 2
   have cm_3 : wx.cell? ⟨m, 3, none⟩ = some (.slice Am ms.length cm) := (xaB Bm.out 3).trans rfl
   have zm_3 := xaE Bm.out 3
   have cm_4 : wx.cell? ⟨m, 4, none⟩ = some (.bool true) := (xaB Bm.out 4).trans rfl
   have zm_4 := xaE Bm.out 4
   have cm_5 : wx.cell? ⟨m, 5, none⟩ = some (.int .i64 0) := (xaB Bm.out 5).trans rfl
   have zm_5 := xaE Bm.out 5
   go_upto_region 23 with fail
   obtain ⟨wy, hwz⟩ : ∃ wy, wx.setCell ⟨m, 5, none⟩ (.int .i64 te) = wy := ⟨_, rfl⟩
   replace HB := am (hwz ▸ xaF HB.out hm0.out.1)
   replace Br := am (hwz ▸ (Below.heap_setCell wx ⟨m, 5, none⟩ (.int .i64 te) r (by have := hm0.out; show r ≠ m; omega)).trans Br.out)
   replace Bm : xaA (wy.heap[m]? = some (.cells #[.slice (some ad) code.length cl, .int .i64 ((q : Int) + 1), .slice Af fl.length cf, .slice Am ms.length cm, .bool true, .int .i64 te] 51 (0, 0))) := ⟨hwz ▸ xaN Bm.out 5 (.int .i64 te) rfl⟩
   rw [hwz]
   clear hwz cm_0 cm_1 cm_2 cm_3 cm_4 cm_5 zm_0 zm_1 zm_2 zm_3 zm_4 zm_5
   have cm_0 : wy.cell? ⟨m, 0, none⟩ = some (.slice (some ad) code.length cl) := (xaB Bm.out 0).trans rfl
   have cm_1 : wy.cell? ⟨m, 1, none⟩ = some (.int .i64 ((q : Int) + 1)) := (xaB Bm.out 1).trans rfl
   have cm_2 : wy.cell? ⟨m, 2, none⟩ = some (.slice Af fl.length cf) := (xaB Bm.out 2).trans rfl
   have cm_3 : wy.cell? ⟨m, 3, none⟩ = some (.slice Am ms.length cm) := (xaB Bm.out 3).trans rfl
   have cm_4 : wy.cell? ⟨m, 4, none⟩ = some (.bool true) := (xaB Bm.out 4).trans rfl
   have cm_5 : wy.cell? ⟨m, 5, none⟩ = some (.int .i64 te) := (xaB Bm.out 5).trans rfl
   have cr_ := cz6 Br
   go_wp2_with fail
   skip
   obtain ⟨wz, hwz⟩ : ∃ wz, setL wy r 0 [.slice (some ad) code.length cl, .int .i64 ((q : Int) + 1), .slice Af fl.length cf, .slice Am ms.length cm, .bool true, .int .i64 te] = wz := ⟨_, rfl⟩
   replace HB := am (hwz ▸ xaY hm0.out.2.2 [.slice (some ad) code.length cl, .int .i64 ((q : Int) + 1), .slice Af fl.length cf, .slice Am ms.length cm, .bool true, .int .i64 te] 0 _ HB.out)
   replace Br : xaA (wz.heap[r]? = some (.cells #[.slice (some ad) code.length cl, .int .i64 ((q : Int) + 1), .slice Af fl.length cf, .slice Am ms.length cm, .bool true, .int .i64 te] 51 (0, 0))) := ⟨hwz ▸ xbD (vs := [.slice (some ad) code.length cl, .int .i64 ((q : Int) + 1), .slice Af fl.length cf, .slice Am ms.length cm, .bool true, .int .i64 te]) Br.out rfl⟩
   simp only [setL, Nat.reduceAdd] at hwz
   rw [hwz]
   clear hwz cr_;have cr_ := ce6 Br
   refine bodyPost_ret (v := .agg #[.slice (some ad) code.length cl, .int .i64 ((q : Int) + 1), .slice Af fl.length cf, .slice Am ms.length cm, .bool true, .int .i64 te]) (by simp [results, Tryz.results39, go_sem, cr_]) rfl ?_
   show OneP base F w _ code.length cl q _ _ _
   rw [HRR.out, if_neg HTE.out]
   exact ⟨Af, cf, Am, cm, by have h := HTE.out; simp [h], (HF.out.below HB.out).mono (fun k hk _ => Or.inl hk), (HM.out.below HB.out).mono (fun k hk _ => Or.inl hk), (Fr.refl _ w).below HB.out⟩
theorem in_c (n lo hi : Int) (w : World) : Calls Tryz.prog 105 #[.int .i64 n, .int .i64 lo, .int .i64 hi] w fun e w' => e = .returned (.bool (inB n lo hi)) ∧ w' = w := by
 unfold inB
 by_cases h1 : lo ≤ n
 ·
  have t1 : decide (n ≥ lo) = true := decide_eq_true h1
  have t2 : decide (lo ≤ n) = true := decide_eq_true h1
  go_enter Tryz.func105, Tryz.ntmps105
  go_wp2_with fail
  go_ret
  exact ⟨by simp [h1], rfl⟩
 ·
  have t1 : decide (n ≥ lo) = false := decide_eq_false h1
  have t2 : decide (lo ≤ n) = false := decide_eq_false h1
  go_enter Tryz.func105, Tryz.ntmps105
  go_wp2_with fail
  go_ret
  exact ⟨by simp [h1], rfl⟩
theorem xlP (n : Int) (w : World) : Calls Tryz.prog 104 #[.int .i64 n] w fun e w' => e = .returned (.bool (inB n 0 109572)) ∧ w' = w := by
 have HI := am (in_c n 0 109572)
 go_enter Tryz.func104, Tryz.ntmps104
 go_wp2_with (go_at_call 105; (with_reducible refine (HI.out _).mono ?_); rintro e w' ⟨rfl, hw_⟩; obtain rfl := hw_.symm)
 go_ret
 exact ⟨rfl, rfl⟩
theorem fields2 (o1 o2 : Nat) (o3 o4 o5 o6 o7 o8 : Int) (w : World) (eq n1 n2 n3 : Bool) (he : decide (o2 = 0 ∧ o4 = 0 ∧ o6 = 0 ∧ o7 = 0 ∧ o8 = 0) = eq) (hn1 : numB o1 = n1) (hn2 : decide (1 ≤ o5 ∧ o5 ≤ 8) = n2) (hn3 : inB o3 0 109572 = n3) : Calls Tryz.prog 80 #[(.agg #[.int .i64 2, .int .i64 0, .int .i64 0, .int .u64 (o1 : Int), .int .u64 (o2 : Int), .int .i64 o3, .int .i64 o4, .int .i64 o5, .int .i64 o6, .int .i64 o7, .int .i64 o8])] w fun e w' => e = .returned (.bool (((eq && n1) && n2) && n3)) ∧ Below w.heap.size w w' := by
 have HB : xaA (Below w.heap.size w w) := ⟨Below.refl _ _⟩
 have HNn1 := am (xdV o1)
 rw [hn1] at HNn1
 have HNn2 := am (cur_c o5)
 rw [hn2] at HNn2
 have HNn3 := am (xlP o3)
 rw [hn3] at HNn3
 have HE := am he;clear he hn1 hn2 hn3
 go_enter Tryz.func80, Tryz.ntmps80
 go_upto_region 1 with ((with_reducible refine xaJ (N := 1) rfl ?_); refine bxv 1 #[.int .i64 2, .int .i64 0, .int .i64 0, .int .u64 (o1 : Int), .int .u64 (o2 : Int), .int .i64 o3, .int .i64 o4, .int .i64 o5, .int .i64 o6, .int .i64 o7, .int .i64 o8] 109 ?_; intro t hg w1 hbox hb; have Bt := am hbox; have HBt := HB; replace HB := am (xaC HB.out hb); have HGt := am hg; have HLt := am (xaM hbox); clear hb hbox hg; have ct_ := cz11 Bt)
 go_upto_region 2 with ((with_reducible refine xaJ (N := 3) rfl ?_); refine bxv 3 #[.int .i64 0, .int .i64 0, .int .i64 0, .int .u64 0, .int .u64 0, .int .i64 0, .int .i64 0, .int .i64 0, .int .i64 0, .int .i64 0, .int .i64 0] 109 ?_; intro x hg w2 hbox hb; have Bx := am hbox; replace Bt := am (xaD Bt.out hb); have HBx := HB; replace HB := am (xaC HB.out hb); have HGx := am hg; have HLx := am (xaM hbox); clear hb hbox hg; have cx_ := cz11 Bx)
 have hx0 : xaA (w.heap.size ≤ x ∧ t ≠ x) := ⟨by have h1 := HGt.out; have h2 := HLt.out; have h3 := HGx.out; have h4 := HBx.out.size; omega⟩
 clear cx_ ct_ HBt HGt HLt HBx HGx HLx
 obtain ⟨w3, hwz⟩ : ∃ w3, setL w2 x 0 [.int .i64 2, .int .i64 0, .int .i64 0, .int .u64 0, .int .u64 0, .int .i64 0, .int .i64 0, .int .i64 0, .int .i64 0, .int .i64 0, .int .i64 0] = w3 := ⟨_, rfl⟩
 replace HB := am (hwz ▸ xaY hx0.out.1 [.int .i64 2, .int .i64 0, .int .i64 0, .int .u64 0, .int .u64 0, .int .i64 0, .int .i64 0, .int .i64 0, .int .i64 0, .int .i64 0, .int .i64 0] 0 _ HB.out)
 replace Bt := am (hwz ▸ (xaW hx0.out.2 [.int .i64 2, .int .i64 0, .int .i64 0, .int .u64 0, .int .u64 0, .int .i64 0, .int .i64 0, .int .i64 0, .int .i64 0, .int .i64 0, .int .i64 0] 0 w2).trans Bt.out)
 replace Bx : xaA (w3.heap[x]? = some (.cells #[.int .i64 2, .int .i64 0, .int .i64 0, .int .u64 0, .int .u64 0, .int .i64 0, .int .i64 0, .int .i64 0, .int .i64 0, .int .i64 0, .int .i64 0] 109 (0, 0))) := ⟨hwz ▸ xbD (vs := [.int .i64 2, .int .i64 0, .int .i64 0, .int .u64 0, .int .u64 0, .int .i64 0, .int .i64 0, .int .i64 0, .int .i64 0, .int .i64 0, .int .i64 0]) Bx.out rfl⟩
 simp only [setL, Nat.reduceAdd] at hwz
 rw [hwz]
 clear hwz;have ct_ := ce11 Bt;have cx_ := cz11 Bx
 go_upto_region 9 with fail
 obtain ⟨w4, hwz⟩ : ∃ w4, w3.setCell ⟨x, 3, none⟩ (.int .u64 (o1 : Int)) = w4 := ⟨_, rfl⟩
 replace HB := am (hwz ▸ xaF HB.out hx0.out.1)
 replace Bt := am (hwz ▸ (Below.heap_setCell w3 ⟨x, 3, none⟩ (.int .u64 (o1 : Int)) t hx0.out.2).trans Bt.out)
 replace Bx : xaA (w4.heap[x]? = some (.cells #[.int .i64 2, .int .i64 0, .int .i64 0, .int .u64 (o1 : Int), .int .u64 0, .int .i64 0, .int .i64 0, .int .i64 0, .int .i64 0, .int .i64 0, .int .i64 0] 109 (0, 0))) := ⟨hwz ▸ xaN Bx.out 3 (.int .u64 (o1 : Int)) rfl⟩
 rw [hwz]
 clear hwz ct_ cx_;have ct_ := ce11 Bt;have cx_ := cz11 Bx
 go_upto_region 10 with fail
 obtain ⟨w5, hwz⟩ : ∃ w5, w4.setCell ⟨x, 7, none⟩ (.int .i64 o5) = w5 := ⟨_, rfl⟩
 replace HB := am (hwz ▸ xaF HB.out hx0.out.1)
 replace Bt := am (hwz ▸ (Below.heap_setCell w4 ⟨x, 7, none⟩ (.int .i64 o5) t hx0.out.2).trans Bt.out)
 replace Bx : xaA (w5.heap[x]? = some (.cells #[.int .i64 2, .int .i64 0, .int .i64 0, .int .u64 (o1 : Int), .int .u64 0, .int .i64 0, .int .i64 0, .int .i64 o5, .int .i64 0, .int .i64 0, .int .i64 0] 109 (0, 0))) := ⟨hwz ▸ xaN Bx.out 7 (.int .i64 o5) rfl⟩
 rw [hwz]
 clear hwz ct_ cx_;have ct_ := ce11 Bt;have cx_ := cz11 Bx
 go_upto_region 11 with fail
 obtain ⟨w6, hwz⟩ : ∃ w6, w5.setCell ⟨x, 5, none⟩ (.int .i64 o3) = w6 := ⟨_, rfl⟩
 replace HB := am (hwz ▸ xaF HB.out hx0.out.1)
 replace Bt := am (hwz ▸ (Below.heap_setCell w5 ⟨x, 5, none⟩ (.int .i64 o3) t hx0.out.2).trans Bt.out)
 replace Bx : xaA (w6.heap[x]? = some (.cells #[.int .i64 2, .int .i64 0, .int .i64 0, .int .u64 (o1 : Int), .int .u64 0, .int .i64 o3, .int .i64 0, .int .i64 o5, .int .i64 0, .int .i64 0, .int .i64 0] 109 (0, 0))) := ⟨hwz ▸ xaN Bx.out 5 (.int .i64 o3) rfl⟩
 rw [hwz]
 clear hwz ct_ cx_;have ct_ := ce11 Bt;have cx_ := ce11 Bx
 skip
 go_wp2_with (first | (go_at_call 85; go_loud (first | ((with_reducible refine (HNn1.out _).mono ?_); rintro z ww ⟨rfl, hw_⟩; obtain rfl := hw_.symm))) | (go_at_call 103; go_loud (first | ((with_reducible refine (HNn2.out _).mono ?_); rintro z ww ⟨rfl, hw_⟩; obtain rfl := hw_.symm))) | (go_at_call 104; go_loud (first | ((with_reducible refine (HNn3.out _).mono ?_); rintro z ww ⟨rfl, hw_⟩; obtain rfl := hw_.symm))))
 skip
 all_goals
  go_ret
  exact ⟨congrArg (fun b => Ending.returned (Value.bool b)) (by rw [← HE.out]; simp [*]), HB.out⟩
theorem fields3 (o1 o2 : Nat) (o3 o4 o5 o6 o7 o8 : Int) (w : World) (eq n1 n2 n3 n4 n5 n6 n7 n8 : Bool) (he : decide (o8 = 0) = eq) (hn1 : numB o1 = n1) (hn2 : numB o2 = n2) (hn3 : inB o6 1 5 = n3) (hn4 : inB o3 0 109572 = n4) (hn5 : inB o4 0 109572 = n5) (hn6 : decide (o3 < o4) = n6) (hn7 : inB o7 1 1200 = n7) (hn8 : decide (1 ≤ o5 ∧ o5 ≤ 8) = n8) : Calls Tryz.prog 80 #[(.agg #[.int .i64 3, .int .i64 0, .int .i64 0, .int .u64 (o1 : Int), .int .u64 (o2 : Int), .int .i64 o3, .int .i64 o4, .int .i64 o5, .int .i64 o6, .int .i64 o7, .int .i64 o8])] w fun e w' => e = .returned (.bool ((((((((eq && n1) && n2) && n3) && n4) && n5) && n6) && n7) && n8)) ∧ Below w.heap.size w w' := by
 have HB : xaA (Below w.heap.size w w) := ⟨Below.refl _ _⟩
 have HNn1 := am (xdV o1)
 rw [hn1] at HNn1
 have HNn2 := am (xdV o2)
 rw [hn2] at HNn2
 have HNn3 := am (in_c o6 1 5)
 rw [hn3] at HNn3
 have HNn4 := am (xlP o3)
 rw [hn4] at HNn4
 have HNn5 := am (xlP o4)
 rw [hn5] at HNn5
 have HNn7 := am (in_c o7 1 1200)
 rw [hn7] at HNn7
 have HNn8 := am (cur_c o5)
 rw [hn8] at HNn8
 have HE := am he;clear he hn1 hn2 hn3 hn4 hn5 hn7 hn8
 go_enter Tryz.func80, Tryz.ntmps80
 go_upto_region 1 with ((with_reducible refine xaJ (N := 1) rfl ?_); refine bxv 1 #[.int .i64 3, .int .i64 0, .int .i64 0, .int .u64 (o1 : Int), .int .u64 (o2 : Int), .int .i64 o3, .int .i64 o4, .int .i64 o5, .int .i64 o6, .int .i64 o7, .int .i64 o8] 109 ?_; intro t hg w1 hbox hb; have Bt := am hbox; have HBt := HB; replace HB := am (xaC HB.out hb); have HGt := am hg; have HLt := am (xaM hbox); clear hb hbox hg; have ct_ := cz11 Bt)
 go_upto_region 2 with ((with_reducible refine xaJ (N := 3) rfl ?_); refine bxv 3 #[.int .i64 0, .int .i64 0, .int .i64 0, .int .u64 0, .int .u64 0, .int .i64 0, .int .i64 0, .int .i64 0, .int .i64 0, .int .i64 0, .int .i64 0] 109 ?_; intro x hg w2 hbox hb; have Bx := am hbox; replace Bt := am (xaD Bt.out hb); have HBx := HB; replace HB := am (xaC HB.out hb); have HGx := am hg; have HLx := am (xaM hbox); clear hb hbox hg; have cx_ := cz11 Bx)
 have hx0 : xaA (w.heap.size ≤ x ∧ t ≠ x) := ⟨by have h1 := HGt.out; have h2 := HLt.out; have h3 := HGx.out; have h4 := HBx.out.size; omega⟩
 clear cx_ ct_ HBt HGt HLt HBx HGx HLx
 obtain ⟨w3, hwz⟩ : ∃ w3, setL w2 x 0 [.int .i64 3, .int .i64 0, .int .i64 0, .int .u64 0, .int .u64 0, .int .i64 0, .int .i64 0, .int .i64 0, .int .i64 0, .int .i64 0, .int .i64 0] = w3 := ⟨_, rfl⟩
 replace HB := am (hwz ▸ xaY hx0.out.1 [.int .i64 3, .int .i64 0, .int .i64 0, .int .u64 0, .int .u64 0, .int .i64 0, .int .i64 0, .int .i64 0, .int .i64 0, .int .i64 0, .int .i64 0] 0 _ HB.out)
 replace Bt := am (hwz ▸ (xaW hx0.out.2 [.int .i64 3, .int .i64 0, .int .i64 0, .int .u64 0, .int .u64 0, .int .i64 0, .int .i64 0, .int .i64 0, .int .i64 0, .int .i64 0, .int .i64 0] 0 w2).trans Bt.out)
 replace Bx : xaA (w3.heap[x]? = some (.cells #[.int .i64 3, .int .i64 0, .int .i64 0, .int .u64 0, .int .u64 0, .int .i64 0, .int .i64 0, .int .i64 0, .int .i64 0, .int .i64 0, .int .i64 0] 109 (0, 0))) := ⟨hwz ▸ xbD (vs := [.int .i64 3, .int .i64 0, .int .i64 0, .int .u64 0, .int .u64 0, .int .i64 0, .int .i64 0, .int .i64 0, .int .i64 0, .int .i64 0, .int .i64 0]) Bx.out rfl⟩
 simp only [setL, Nat.reduceAdd] at hwz
 rw [hwz]
 clear hwz;have ct_ := ce11 Bt;have cx_ := cz11 Bx
 go_upto_region 14 with fail
 clear cx_ ct_
 obtain ⟨w4, hwz⟩ : ∃ w4, setL w3 x 0 [.int .i64 3, .int .i64 0, .int .i64 0, .int .u64 (o1 : Int), .int .u64 (o2 : Int), .int .i64 o3, .int .i64 o4, .int .i64 o5, .int .i64 o6, .int .i64 o7, .int .i64 o8] = w4 := ⟨_, rfl⟩
 replace HB := am (hwz ▸ xaY hx0.out.1 [.int .i64 3, .int .i64 0, .int .i64 0, .int .u64 (o1 : Int), .int .u64 (o2 : Int), .int .i64 o3, .int .i64 o4, .int .i64 o5, .int .i64 o6, .int .i64 o7, .int .i64 o8] 0 _ HB.out)
 replace Bt := am (hwz ▸ (xaW hx0.out.2 [.int .i64 3, .int .i64 0, .int .i64 0, .int .u64 (o1 : Int), .int .u64 (o2 : Int), .int .i64 o3, .int .i64 o4, .int .i64 o5, .int .i64 o6, .int .i64 o7, .int .i64 o8] 0 w3).trans Bt.out)
 replace Bx : xaA (w4.heap[x]? = some (.cells #[.int .i64 3, .int .i64 0, .int .i64 0, .int .u64 (o1 : Int), .int .u64 (o2 : Int), .int .i64 o3, .int .i64 o4, .int .i64 o5, .int .i64 o6, .int .i64 o7, .int .i64 o8] 109 (0, 0))) := ⟨hwz ▸ xbD (vs := [.int .i64 3, .int .i64 0, .int .i64 0, .int .u64 (o1 : Int), .int .u64 (o2 : Int), .int .i64 o3, .int .i64 o4, .int .i64 o5, .int .i64 o6, .int .i64 o7, .int .i64 o8]) Bx.out rfl⟩
 simp only [setL, Nat.reduceAdd] at hwz
 rw [hwz]
 clear hwz;have ct_ := ce11 Bt;have cx_ := cz11 Bx
 go_upto_region 15 with fail
 obtain ⟨w5, hwz⟩ : ∃ w5, w4.setCell ⟨x, 10, none⟩ (.int .i64 0) = w5 := ⟨_, rfl⟩
 replace HB := am (hwz ▸ xaF HB.out hx0.out.1)
 replace Bt := am (hwz ▸ (Below.heap_setCell w4 ⟨x, 10, none⟩ (.int .i64 0) t hx0.out.2).trans Bt.out)
 replace Bx : xaA (w5.heap[x]? = some (.cells #[.int .i64 3, .int .i64 0, .int .i64 0, .int .u64 (o1 : Int), .int .u64 (o2 : Int), .int .i64 o3, .int .i64 o4, .int .i64 o5, .int .i64 o6, .int .i64 o7, .int .i64 0] 109 (0, 0))) := ⟨hwz ▸ xaN Bx.out 10 (.int .i64 0) rfl⟩
 rw [hwz]
 clear hwz ct_ cx_;have ct_ := ce11 Bt;have cx_ := ce11 Bx
 skip
 go_wp2_with (first | (go_at_call 85; go_loud (first | ((with_reducible refine (HNn1.out _).mono ?_); rintro z ww ⟨rfl, hw_⟩; obtain rfl := hw_.symm) | ((with_reducible refine (HNn2.out _).mono ?_); rintro z ww ⟨rfl, hw_⟩; obtain rfl := hw_.symm))) | (go_at_call 103; go_loud (first | ((with_reducible refine (HNn8.out _).mono ?_); rintro z ww ⟨rfl, hw_⟩; obtain rfl := hw_.symm))) | (go_at_call 104; go_loud (first | ((with_reducible refine (HNn4.out _).mono ?_); rintro z ww ⟨rfl, hw_⟩; obtain rfl := hw_.symm) | ((with_reducible refine (HNn5.out _).mono ?_); rintro z ww ⟨rfl, hw_⟩; obtain rfl := hw_.symm))) | (go_at_call 105; go_loud (first | ((with_reducible refine (HNn3.out _).mono ?_); rintro z ww ⟨rfl, hw_⟩; obtain rfl := hw_.symm) | ((with_reducible refine (HNn7.out _).mono ?_); rintro z ww ⟨rfl, hw_⟩; obtain rfl := hw_.symm))))
 skip
 all_goals
  go_ret
  exact ⟨congrArg (fun b => Ending.returned (Value.bool b)) (by rw [← HE.out]; simp [*]), HB.out⟩
theorem fields4 (o1 o2 : Nat) (o3 o4 o5 o6 o7 o8 : Int) (w : World) (eq  : Bool) (he : decide (o1 = 0 ∧ o2 = 0 ∧ o3 = 0 ∧ o4 = 0 ∧ o5 = 0 ∧ o6 = 0 ∧ o7 = 0 ∧ o8 = 0) = eq)  : Calls Tryz.prog 80 #[(.agg #[.int .i64 4, .int .i64 0, .int .i64 0, .int .u64 (o1 : Int), .int .u64 (o2 : Int), .int .i64 o3, .int .i64 o4, .int .i64 o5, .int .i64 o6, .int .i64 o7, .int .i64 o8])] w fun e w' => e = .returned (.bool eq) ∧ Below w.heap.size w w' := by
 have HB : xaA (Below w.heap.size w w) := ⟨Below.refl _ _⟩
 have HE := am he
 clear he 
 go_enter Tryz.func80, Tryz.ntmps80
 go_upto_region 1 with ((with_reducible refine xaJ (N := 1) rfl ?_); refine bxv 1 #[.int .i64 4, .int .i64 0, .int .i64 0, .int .u64 (o1 : Int), .int .u64 (o2 : Int), .int .i64 o3, .int .i64 o4, .int .i64 o5, .int .i64 o6, .int .i64 o7, .int .i64 o8] 109 ?_; intro t hg w1 hbox hb; have Bt := am hbox; have HBt := HB; replace HB := am (xaC HB.out hb); have HGt := am hg; have HLt := am (xaM hbox); clear hb hbox hg; have ct_ := cz11 Bt)
 go_upto_region 2 with ((with_reducible refine xaJ (N := 3) rfl ?_); refine bxv 3 #[.int .i64 0, .int .i64 0, .int .i64 0, .int .u64 0, .int .u64 0, .int .i64 0, .int .i64 0, .int .i64 0, .int .i64 0, .int .i64 0, .int .i64 0] 109 ?_; intro x hg w2 hbox hb; have Bx := am hbox; replace Bt := am (xaD Bt.out hb); have HBx := HB; replace HB := am (xaC HB.out hb); have HGx := am hg; have HLx := am (xaM hbox); clear hb hbox hg; have cx_ := cz11 Bx)
 have hx0 : xaA (w.heap.size ≤ x ∧ t ≠ x) := ⟨by have h1 := HGt.out; have h2 := HLt.out; have h3 := HGx.out; have h4 := HBx.out.size; omega⟩
 clear cx_ ct_ HBt HGt HLt HBx HGx HLx
 obtain ⟨w3, hwz⟩ : ∃ w3, setL w2 x 0 [.int .i64 4, .int .i64 0, .int .i64 0, .int .u64 0, .int .u64 0, .int .i64 0, .int .i64 0, .int .i64 0, .int .i64 0, .int .i64 0, .int .i64 0] = w3 := ⟨_, rfl⟩
 replace HB := am (hwz ▸ xaY hx0.out.1 [.int .i64 4, .int .i64 0, .int .i64 0, .int .u64 0, .int .u64 0, .int .i64 0, .int .i64 0, .int .i64 0, .int .i64 0, .int .i64 0, .int .i64 0] 0 _ HB.out)
 replace Bt := am (hwz ▸ (xaW hx0.out.2 [.int .i64 4, .int .i64 0, .int .i64 0, .int .u64 0, .int .u64 0, .int .i64 0, .int .i64 0, .int .i64 0, .int .i64 0, .int .i64 0, .int .i64 0] 0 w2).trans Bt.out)
 replace Bx : xaA (w3.heap[x]? = some (.cells #[.int .i64 4, .int .i64 0, .int .i64 0, .int .u64 0, .int .u64 0, .int .i64 0, .int .i64 0, .int .i64 0, .int .i64 0, .int .i64 0, .int .i64 0] 109 (0, 0))) := ⟨hwz ▸ xbD (vs := [.int .i64 4, .int .i64 0, .int .i64 0, .int .u64 0, .int .u64 0, .int .i64 0, .int .i64 0, .int .i64 0, .int .i64 0, .int .i64 0, .int .i64 0]) Bx.out rfl⟩
 simp only [setL, Nat.reduceAdd] at hwz
 rw [hwz]
 clear hwz;have ct_ := ce11 Bt;have cx_ := ce11 Bx
 skip
 go_wp2_with (fail)
 skip
 all_goals
  go_ret
  exact ⟨congrArg (fun b => Ending.returned (Value.bool b)) (by rw [← HE.out]; simp [*]), HB.out⟩
theorem fields6 (o1 o2 : Nat) (o3 o4 o5 o6 o7 o8 : Int) (w : World) (eq n1 : Bool) (he : decide (o2 = 0 ∧ o3 = 0 ∧ o4 = 0 ∧ o5 = 0 ∧ o6 = 0 ∧ o7 = 0 ∧ o8 = 0) = eq) (hn1 : numB o1 = n1) : Calls Tryz.prog 80 #[(.agg #[.int .i64 6, .int .i64 0, .int .i64 0, .int .u64 (o1 : Int), .int .u64 (o2 : Int), .int .i64 o3, .int .i64 o4, .int .i64 o5, .int .i64 o6, .int .i64 o7, .int .i64 o8])] w fun e w' => e = .returned (.bool (eq && n1)) ∧ Below w.heap.size w w' := by
 have HB : xaA (Below w.heap.size w w) := ⟨Below.refl _ _⟩
 have HNn1 := am (xdV o1)
 rw [hn1] at HNn1
 have HE := am he;clear he hn1
 go_enter Tryz.func80, Tryz.ntmps80
 go_upto_region 1 with ((with_reducible refine xaJ (N := 1) rfl ?_); refine bxv 1 #[.int .i64 6, .int .i64 0, .int .i64 0, .int .u64 (o1 : Int), .int .u64 (o2 : Int), .int .i64 o3, .int .i64 o4, .int .i64 o5, .int .i64 o6, .int .i64 o7, .int .i64 o8] 109 ?_; intro t hg w1 hbox hb; have Bt := am hbox; have HBt := HB; replace HB := am (xaC HB.out hb); have HGt := am hg; have HLt := am (xaM hbox); clear hb hbox hg; have ct_ := cz11 Bt)
 go_upto_region 2 with ((with_reducible refine xaJ (N := 3) rfl ?_); refine bxv 3 #[.int .i64 0, .int .i64 0, .int .i64 0, .int .u64 0, .int .u64 0, .int .i64 0, .int .i64 0, .int .i64 0, .int .i64 0, .int .i64 0, .int .i64 0] 109 ?_; intro x hg w2 hbox hb; have Bx := am hbox; replace Bt := am (xaD Bt.out hb); have HBx := HB; replace HB := am (xaC HB.out hb); have HGx := am hg; have HLx := am (xaM hbox); clear hb hbox hg; have cx_ := cz11 Bx)
 have hx0 : xaA (w.heap.size ≤ x ∧ t ≠ x) := ⟨by have h1 := HGt.out; have h2 := HLt.out; have h3 := HGx.out; have h4 := HBx.out.size; omega⟩
 clear cx_ ct_ HBt HGt HLt HBx HGx HLx
 obtain ⟨w3, hwz⟩ : ∃ w3, setL w2 x 0 [.int .i64 6, .int .i64 0, .int .i64 0, .int .u64 0, .int .u64 0, .int .i64 0, .int .i64 0, .int .i64 0, .int .i64 0, .int .i64 0, .int .i64 0] = w3 := ⟨_, rfl⟩
 replace HB := am (hwz ▸ xaY hx0.out.1 [.int .i64 6, .int .i64 0, .int .i64 0, .int .u64 0, .int .u64 0, .int .i64 0, .int .i64 0, .int .i64 0, .int .i64 0, .int .i64 0, .int .i64 0] 0 _ HB.out)
 replace Bt := am (hwz ▸ (xaW hx0.out.2 [.int .i64 6, .int .i64 0, .int .i64 0, .int .u64 0, .int .u64 0, .int .i64 0, .int .i64 0, .int .i64 0, .int .i64 0, .int .i64 0, .int .i64 0] 0 w2).trans Bt.out)
 replace Bx : xaA (w3.heap[x]? = some (.cells #[.int .i64 6, .int .i64 0, .int .i64 0, .int .u64 0, .int .u64 0, .int .i64 0, .int .i64 0, .int .i64 0, .int .i64 0, .int .i64 0, .int .i64 0] 109 (0, 0))) := ⟨hwz ▸ xbD (vs := [.int .i64 6, .int .i64 0, .int .i64 0, .int .u64 0, .int .u64 0, .int .i64 0, .int .i64 0, .int .i64 0, .int .i64 0, .int .i64 0, .int .i64 0]) Bx.out rfl⟩
 simp only [setL, Nat.reduceAdd] at hwz
 rw [hwz]
 clear hwz;have ct_ := ce11 Bt;have cx_ := cz11 Bx
 go_upto_region 18 with fail
 obtain ⟨w4, hwz⟩ : ∃ w4, w3.setCell ⟨x, 3, none⟩ (.int .u64 (o1 : Int)) = w4 := ⟨_, rfl⟩
 replace HB := am (hwz ▸ xaF HB.out hx0.out.1)
 replace Bt := am (hwz ▸ (Below.heap_setCell w3 ⟨x, 3, none⟩ (.int .u64 (o1 : Int)) t hx0.out.2).trans Bt.out)
 replace Bx : xaA (w4.heap[x]? = some (.cells #[.int .i64 6, .int .i64 0, .int .i64 0, .int .u64 (o1 : Int), .int .u64 0, .int .i64 0, .int .i64 0, .int .i64 0, .int .i64 0, .int .i64 0, .int .i64 0] 109 (0, 0))) := ⟨hwz ▸ xaN Bx.out 3 (.int .u64 (o1 : Int)) rfl⟩
 rw [hwz]
 clear hwz ct_ cx_;have ct_ := ce11 Bt;have cx_ := ce11 Bx
 skip
 go_wp2_with (first | (go_at_call 85; go_loud (first | ((with_reducible refine (HNn1.out _).mono ?_); rintro z ww ⟨rfl, hw_⟩; obtain rfl := hw_.symm))))
 skip
 all_goals
  go_ret
  exact ⟨congrArg (fun b => Ending.returned (Value.bool b)) (by rw [← HE.out]; simp [*]), HB.out⟩
theorem fields7 (o1 o2 : Nat) (o3 o4 o5 o6 o7 o8 : Int) (w : World) (eq n1 n2 : Bool) (he : decide (o1 = 0 ∧ o2 = 0 ∧ o5 = 0 ∧ o6 = 0 ∧ o7 = 0 ∧ o8 = 0) = eq) (hn1 : inB o3 0 109572 = n1) (hn2 : inB o4 0 109572 = n2) : Calls Tryz.prog 80 #[(.agg #[.int .i64 7, .int .i64 0, .int .i64 0, .int .u64 (o1 : Int), .int .u64 (o2 : Int), .int .i64 o3, .int .i64 o4, .int .i64 o5, .int .i64 o6, .int .i64 o7, .int .i64 o8])] w fun e w' => e = .returned (.bool ((eq && n1) && n2)) ∧ Below w.heap.size w w' := by
 have HB : xaA (Below w.heap.size w w) := ⟨Below.refl _ _⟩
 have HNn1 := am (xlP o3)
 rw [hn1] at HNn1
 have HNn2 := am (xlP o4)
 rw [hn2] at HNn2
 have HE := am he;clear he hn1 hn2
 go_enter Tryz.func80, Tryz.ntmps80
 go_upto_region 1 with ((with_reducible refine xaJ (N := 1) rfl ?_); refine bxv 1 #[.int .i64 7, .int .i64 0, .int .i64 0, .int .u64 (o1 : Int), .int .u64 (o2 : Int), .int .i64 o3, .int .i64 o4, .int .i64 o5, .int .i64 o6, .int .i64 o7, .int .i64 o8] 109 ?_; intro t hg w1 hbox hb; have Bt := am hbox; have HBt := HB; replace HB := am (xaC HB.out hb); have HGt := am hg; have HLt := am (xaM hbox); clear hb hbox hg; have ct_ := cz11 Bt)
 go_upto_region 2 with ((with_reducible refine xaJ (N := 3) rfl ?_); refine bxv 3 #[.int .i64 0, .int .i64 0, .int .i64 0, .int .u64 0, .int .u64 0, .int .i64 0, .int .i64 0, .int .i64 0, .int .i64 0, .int .i64 0, .int .i64 0] 109 ?_; intro x hg w2 hbox hb; have Bx := am hbox; replace Bt := am (xaD Bt.out hb); have HBx := HB; replace HB := am (xaC HB.out hb); have HGx := am hg; have HLx := am (xaM hbox); clear hb hbox hg; have cx_ := cz11 Bx)
 have hx0 : xaA (w.heap.size ≤ x ∧ t ≠ x) := ⟨by have h1 := HGt.out; have h2 := HLt.out; have h3 := HGx.out; have h4 := HBx.out.size; omega⟩
 clear cx_ ct_ HBt HGt HLt HBx HGx HLx
 obtain ⟨w3, hwz⟩ : ∃ w3, setL w2 x 0 [.int .i64 7, .int .i64 0, .int .i64 0, .int .u64 0, .int .u64 0, .int .i64 0, .int .i64 0, .int .i64 0, .int .i64 0, .int .i64 0, .int .i64 0] = w3 := ⟨_, rfl⟩
 replace HB := am (hwz ▸ xaY hx0.out.1 [.int .i64 7, .int .i64 0, .int .i64 0, .int .u64 0, .int .u64 0, .int .i64 0, .int .i64 0, .int .i64 0, .int .i64 0, .int .i64 0, .int .i64 0] 0 _ HB.out)
 replace Bt := am (hwz ▸ (xaW hx0.out.2 [.int .i64 7, .int .i64 0, .int .i64 0, .int .u64 0, .int .u64 0, .int .i64 0, .int .i64 0, .int .i64 0, .int .i64 0, .int .i64 0, .int .i64 0] 0 w2).trans Bt.out)
 replace Bx : xaA (w3.heap[x]? = some (.cells #[.int .i64 7, .int .i64 0, .int .i64 0, .int .u64 0, .int .u64 0, .int .i64 0, .int .i64 0, .int .i64 0, .int .i64 0, .int .i64 0, .int .i64 0] 109 (0, 0))) := ⟨hwz ▸ xbD (vs := [.int .i64 7, .int .i64 0, .int .i64 0, .int .u64 0, .int .u64 0, .int .i64 0, .int .i64 0, .int .i64 0, .int .i64 0, .int .i64 0, .int .i64 0]) Bx.out rfl⟩
 simp only [setL, Nat.reduceAdd] at hwz
 rw [hwz]
 clear hwz;have ct_ := ce11 Bt;have cx_ := cz11 Bx
 go_upto_region 21 with fail
 obtain ⟨w4, hwz⟩ : ∃ w4, w3.setCell ⟨x, 5, none⟩ (.int .i64 o3) = w4 := ⟨_, rfl⟩
 replace HB := am (hwz ▸ xaF HB.out hx0.out.1)
 replace Bt := am (hwz ▸ (Below.heap_setCell w3 ⟨x, 5, none⟩ (.int .i64 o3) t hx0.out.2).trans Bt.out)
 replace Bx : xaA (w4.heap[x]? = some (.cells #[.int .i64 7, .int .i64 0, .int .i64 0, .int .u64 0, .int .u64 0, .int .i64 o3, .int .i64 0, .int .i64 0, .int .i64 0, .int .i64 0, .int .i64 0] 109 (0, 0))) := ⟨hwz ▸ xaN Bx.out 5 (.int .i64 o3) rfl⟩
 rw [hwz]
 clear hwz ct_ cx_;have ct_ := ce11 Bt;have cx_ := cz11 Bx
 go_upto_region 22 with fail
 obtain ⟨w5, hwz⟩ : ∃ w5, w4.setCell ⟨x, 6, none⟩ (.int .i64 o4) = w5 := ⟨_, rfl⟩
 replace HB := am (hwz ▸ xaF HB.out hx0.out.1)
 replace Bt := am (hwz ▸ (Below.heap_setCell w4 ⟨x, 6, none⟩ (.int .i64 o4) t hx0.out.2).trans Bt.out)
 replace Bx : xaA (w5.heap[x]? = some (.cells #[.int .i64 7, .int .i64 0, .int .i64 0, .int .u64 0, .int .u64 0, .int .i64 o3, .int .i64 o4, .int .i64 0, .int .i64 0, .int .i64 0, .int .i64 0] 109 (0, 0))) := ⟨hwz ▸ xaN Bx.out 6 (.int .i64 o4) rfl⟩
 rw [hwz]
 clear hwz ct_ cx_;have ct_ := ce11 Bt;have cx_ := ce11 Bx
 skip
 go_wp2_with (first | (go_at_call 104; go_loud (first | ((with_reducible refine (HNn1.out _).mono ?_); rintro z ww ⟨rfl, hw_⟩; obtain rfl := hw_.symm) | ((with_reducible refine (HNn2.out _).mono ?_); rintro z ww ⟨rfl, hw_⟩; obtain rfl := hw_.symm))))
 skip
 all_goals
  go_ret
  exact ⟨congrArg (fun b => Ending.returned (Value.bool b)) (by rw [← HE.out]; simp [*]), HB.out⟩
theorem fields8 (o1 o2 : Nat) (o3 o4 o5 o6 o7 o8 : Int) (w : World) (eq n1 n2 : Bool) (he : decide (o1 = 0 ∧ o2 = 0 ∧ o3 = 0 ∧ o4 = 0 ∧ o5 = 0 ∧ o6 = 0) = eq) (hn1 : inB o7 1 4096 = n1) (hn2 : inB o8 1 1200 = n2) : Calls Tryz.prog 80 #[(.agg #[.int .i64 8, .int .i64 0, .int .i64 0, .int .u64 (o1 : Int), .int .u64 (o2 : Int), .int .i64 o3, .int .i64 o4, .int .i64 o5, .int .i64 o6, .int .i64 o7, .int .i64 o8])] w fun e w' => e = .returned (.bool ((eq && n1) && n2)) ∧ Below w.heap.size w w' := by
 have HB : xaA (Below w.heap.size w w) := ⟨Below.refl _ _⟩
 have HNn1 := am (in_c o7 1 4096)
 rw [hn1] at HNn1
 have HNn2 := am (in_c o8 1 1200)
 rw [hn2] at HNn2
 have HE := am he;clear he hn1 hn2
 go_enter Tryz.func80, Tryz.ntmps80
 go_upto_region 1 with ((with_reducible refine xaJ (N := 1) rfl ?_); refine bxv 1 #[.int .i64 8, .int .i64 0, .int .i64 0, .int .u64 (o1 : Int), .int .u64 (o2 : Int), .int .i64 o3, .int .i64 o4, .int .i64 o5, .int .i64 o6, .int .i64 o7, .int .i64 o8] 109 ?_; intro t hg w1 hbox hb; have Bt := am hbox; have HBt := HB; replace HB := am (xaC HB.out hb); have HGt := am hg; have HLt := am (xaM hbox); clear hb hbox hg; have ct_ := cz11 Bt)
 go_upto_region 2 with ((with_reducible refine xaJ (N := 3) rfl ?_); refine bxv 3 #[.int .i64 0, .int .i64 0, .int .i64 0, .int .u64 0, .int .u64 0, .int .i64 0, .int .i64 0, .int .i64 0, .int .i64 0, .int .i64 0, .int .i64 0] 109 ?_; intro x hg w2 hbox hb; have Bx := am hbox; replace Bt := am (xaD Bt.out hb); have HBx := HB; replace HB := am (xaC HB.out hb); have HGx := am hg; have HLx := am (xaM hbox); clear hb hbox hg; have cx_ := cz11 Bx)
 have hx0 : xaA (w.heap.size ≤ x ∧ t ≠ x) := ⟨by have h1 := HGt.out; have h2 := HLt.out; have h3 := HGx.out; have h4 := HBx.out.size; omega⟩
 clear cx_ ct_ HBt HGt HLt HBx HGx HLx
 obtain ⟨w3, hwz⟩ : ∃ w3, setL w2 x 0 [.int .i64 8, .int .i64 0, .int .i64 0, .int .u64 0, .int .u64 0, .int .i64 0, .int .i64 0, .int .i64 0, .int .i64 0, .int .i64 0, .int .i64 0] = w3 := ⟨_, rfl⟩
 replace HB := am (hwz ▸ xaY hx0.out.1 [.int .i64 8, .int .i64 0, .int .i64 0, .int .u64 0, .int .u64 0, .int .i64 0, .int .i64 0, .int .i64 0, .int .i64 0, .int .i64 0, .int .i64 0] 0 _ HB.out)
 replace Bt := am (hwz ▸ (xaW hx0.out.2 [.int .i64 8, .int .i64 0, .int .i64 0, .int .u64 0, .int .u64 0, .int .i64 0, .int .i64 0, .int .i64 0, .int .i64 0, .int .i64 0, .int .i64 0] 0 w2).trans Bt.out)
 replace Bx : xaA (w3.heap[x]? = some (.cells #[.int .i64 8, .int .i64 0, .int .i64 0, .int .u64 0, .int .u64 0, .int .i64 0, .int .i64 0, .int .i64 0, .int .i64 0, .int .i64 0, .int .i64 0] 109 (0, 0))) := ⟨hwz ▸ xbD (vs := [.int .i64 8, .int .i64 0, .int .i64 0, .int .u64 0, .int .u64 0, .int .i64 0, .int .i64 0, .int .i64 0, .int .i64 0, .int .i64 0, .int .i64 0]) Bx.out rfl⟩
 simp only [setL, Nat.reduceAdd] at hwz
 rw [hwz]
 clear hwz;have ct_ := ce11 Bt;have cx_ := cz11 Bx
 go_upto_region 25 with fail
 obtain ⟨w4, hwz⟩ : ∃ w4, w3.setCell ⟨x, 9, none⟩ (.int .i64 o7) = w4 := ⟨_, rfl⟩
 replace HB := am (hwz ▸ xaF HB.out hx0.out.1)
 replace Bt := am (hwz ▸ (Below.heap_setCell w3 ⟨x, 9, none⟩ (.int .i64 o7) t hx0.out.2).trans Bt.out)
 replace Bx : xaA (w4.heap[x]? = some (.cells #[.int .i64 8, .int .i64 0, .int .i64 0, .int .u64 0, .int .u64 0, .int .i64 0, .int .i64 0, .int .i64 0, .int .i64 0, .int .i64 o7, .int .i64 0] 109 (0, 0))) := ⟨hwz ▸ xaN Bx.out 9 (.int .i64 o7) rfl⟩
 rw [hwz]
 clear hwz ct_ cx_;have ct_ := ce11 Bt;have cx_ := cz11 Bx
 go_upto_region 26 with fail
 obtain ⟨w5, hwz⟩ : ∃ w5, w4.setCell ⟨x, 10, none⟩ (.int .i64 o8) = w5 := ⟨_, rfl⟩
 replace HB := am (hwz ▸ xaF HB.out hx0.out.1)
 replace Bt := am (hwz ▸ (Below.heap_setCell w4 ⟨x, 10, none⟩ (.int .i64 o8) t hx0.out.2).trans Bt.out)
 replace Bx : xaA (w5.heap[x]? = some (.cells #[.int .i64 8, .int .i64 0, .int .i64 0, .int .u64 0, .int .u64 0, .int .i64 0, .int .i64 0, .int .i64 0, .int .i64 0, .int .i64 o7, .int .i64 o8] 109 (0, 0))) := ⟨hwz ▸ xaN Bx.out 10 (.int .i64 o8) rfl⟩
 rw [hwz]
 clear hwz ct_ cx_;have ct_ := ce11 Bt;have cx_ := ce11 Bx
 skip
 go_wp2_with (first | (go_at_call 105; go_loud (first | ((with_reducible refine (HNn1.out _).mono ?_); rintro z ww ⟨rfl, hw_⟩; obtain rfl := hw_.symm) | ((with_reducible refine (HNn2.out _).mono ?_); rintro z ww ⟨rfl, hw_⟩; obtain rfl := hw_.symm))))
 skip
 all_goals
  go_ret
  exact ⟨congrArg (fun b => Ending.returned (Value.bool b)) (by rw [← HE.out]; simp [*]), HB.out⟩
end Go.Proofs.YtkabcgmegljebaaGreatDoor.D
