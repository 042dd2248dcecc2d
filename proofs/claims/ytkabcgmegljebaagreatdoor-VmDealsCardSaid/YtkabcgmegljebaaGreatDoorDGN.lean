/- Contracts and facts of functions of the program, joined in one text. -/
import Derived.Test.YtkabcgmegljebaaGreatDoorDGM
import Derived.Test.YtkabcgmegljebaaGreatDoorDGG
set_option maxHeartbeats 8000000
set_option maxRecDepth 100000
set_option linter.unusedVariables false
set_option linter.unusedSimpArgs false
namespace Go.Proofs.YtkabcgmegljebaaGreatDoor.H
open Go.RowKit Go.Proofs.YtkabcgmegljebaaGreatDoorW.PrintWords Go.Proofs.YtkabcgmegljebaaGreatDoorW.PrintLast Go.Proofs.YtkabcgmegljebaaGreatDoorW.PrintMore
open Go.Proofs.YtkabcgmegljebaaGreatDoor.Q
theorem fixed1 (kind cur : Int) (x y : Nat) (a b n : Int) (rl : List S48) (re : Int) (w : World) (hf : ∀ w, Calls Tryz.prog 96 #[.agg #[.int .i64 1, .int .i64 kind, .int .i64 cur, .float .f64 x, .float .f64 y, .int .i64 a, .int .i64 b, .int .i64 n, .int .i64 3, .int .i64 1, .int .i64 0, .int .i64 0, .int .i64 0, .int .i64 0, .slice none 0 0]] w fun e w' => ∃ A' c', e = .returned (.tuple #[.slice A' rl.length c', .int .i64 re]) ∧ Sl k48 48 w' w.heap.size (fun _ => True) A' c' rl ∧ Below w.heap.size w w') : Calls Tryz.prog 72 #[.agg #[.int .i64 3, .int .i64 0, .int .i64 0, .float .f64 x, .float .f64 y, .int .i64 a, .int .i64 b, .int .i64 cur, .int .i64 kind, .int .i64 n, .int .i64 0]] w fun e w' => ∃ A' c', e = .returned (.tuple #[.slice A' rl.length c', .int .i64 re]) ∧ Sl k48 48 w' w.heap.size (fun _ => True) A' c' rl ∧ Below w.heap.size w w' := by
 have HB := Aside0.mk (Below.refl w.heap.size w)
 have HF := Aside0.mk hf;clear hf
 go_enter Tryz.func72, Tryz.ntmps72
 go_upto_region 2 with ((with_reducible refine xaU (N := 1) rfl ?_); refine xaT ?hg (N := 1) ?hd (cs := #[.int .i64 3, .int .i64 0, .int .i64 0, .float .f64 x, .float .f64 y, .int .i64 a, .int .i64 b, .int .i64 cur, .int .i64 kind, .int .i64 n, .int .i64 0]) (t := 103) ?hr ?_; (case hd => rfl); (case hg => rfl); (case hr => first | (go_simp; done) | (go_simp; rfl)); intro gt hg w1 hbox hb; have Bgt := Aside0.mk hbox; replace HB := Aside0.mk (xaV HB.out hb); clear hb hbox hg; obtain ⟨⟨cgt_0, cgt_1, cgt_2, cgt_3, cgt_4, cgt_5, cgt_6, cgt_7, cgt_8, cgt_9, cgt_10⟩, ygt_⟩ := blk11 Bgt)
 have BS := Aside0.mk (xbB w1 (.cells #[.int .i64 a, .int .i64 b, .int .i64 n, .int .i64 3, .int .i64 1, .int .i64 0, .int .i64 0, .int .i64 0, .int .i64 0, .slice none 0 0] 117))
 have BTW := Aside0.mk (xaK Bgt.out (xaC (Below.refl w1.heap.size w1) (.cells #[.int .i64 a, .int .i64 b, .int .i64 n, .int .i64 3, .int .i64 1, .int .i64 0, .int .i64 0, .int .i64 0, .int .i64 0, .slice none 0 0] 117)))
 replace HB := Aside0.mk (xaC HB.out (.cells #[.int .i64 a, .int .i64 b, .int .i64 n, .int .i64 3, .int .i64 1, .int .i64 0, .int .i64 0, .int .i64 0, .int .i64 0, .slice none 0 0] 117))
 clear cgt_0 cgt_1 cgt_2 cgt_3 cgt_4 cgt_5 cgt_6 cgt_7 cgt_8 cgt_9 cgt_10 ygt_
 generalize w1.heap.size = gs at BS ⊢
 generalize w1.alloc (.cells #[.int .i64 a, .int .i64 b, .int .i64 n, .int .i64 3, .int .i64 1, .int .i64 0, .int .i64 0, .int .i64 0, .int .i64 0, .slice none 0 0] 117) = W at BS BTW HB ⊢
 obtain ⟨cgs_0, cgs_1, cgs_2, cgs_3, cgs_4, cgs_5, cgs_6, cgs_7, cgs_8, cgs_9, zgs_0, zgs_1, zgs_2, zgs_3, zgs_4, zgs_5, zgs_6, zgs_7, zgs_8, zgs_9⟩ := blk10 BS
 obtain ⟨⟨cgt_0, cgt_1, cgt_2, cgt_3, cgt_4, cgt_5, cgt_6, cgt_7, cgt_8, cgt_9, cgt_10⟩, ygt_⟩ := blk11 BTW
 go_wp2_with (go_at_call 96; (with_reducible refine (HF.out _).mono ?_); rintro e w5 ⟨A', c', rfl, hs, hb⟩; have HS := Aside0.mk hs; have HB5 := Aside0.mk hb; clear hs hb)
 go_ret2
 exact ⟨A', c', rfl, HS.out.low HB.out.size, HB.out.trans (HB5.out.mono HB.out.size)⟩
theorem meant1 (kind cur : Int) (x y : Nat) (a b n : Int) (rl : List S48) (re : Int) (w : World) (hl : rl.length ≤ 4096) (hf : ∀ w, Calls Tryz.prog 72 #[.agg #[.int .i64 3, .int .i64 0, .int .i64 0, .float .f64 x, .float .f64 y, .int .i64 a, .int .i64 b, .int .i64 cur, .int .i64 kind, .int .i64 n, .int .i64 0]] w fun e w' => ∃ A' c', e = .returned (.tuple #[.slice A' rl.length c', .int .i64 re]) ∧ Sl k48 48 w' w.heap.size (fun _ => True) A' c' rl ∧ Below w.heap.size w w') : Calls Tryz.prog 48 #[.agg #[.int .i64 3, .int .i64 0, .int .i64 0, .float .f64 x, .float .f64 y, .int .i64 a, .int .i64 b, .int .i64 cur, .int .i64 kind, .int .i64 n, .int .i64 0], .slice none 0 0, .int .i64 4096] w fun e w' => ∃ A' c', e = .returned (.tuple #[.slice A' rl.length c', .int .i64 re]) ∧ Sl k48 48 w' w.heap.size (fun _ => True) A' c' rl ∧ Below w.heap.size w w' := by
 have HB := Aside0.mk (Below.refl w.heap.size w)
 have HF := Aside0.mk hf
 have t1 : decide ((rl.length : Int) > 4096) = false := decide_eq_false (by omega)
 clear hf hl
 by_cases he : re = 0
 ·
  subst he
  go_enter Tryz.func48, Tryz.ntmps48
  go_wp2_with (first | ((with_reducible refine xaU (N := 3) rfl ?_); refine xaT ?hg (N := 3) ?hd (cs := #[.int .i64 3, .int .i64 0, .int .i64 0, .float .f64 x, .float .f64 y, .int .i64 a, .int .i64 b, .int .i64 cur, .int .i64 kind, .int .i64 n, .int .i64 0]) (t := 103) ?hr ?_; (case hd => rfl); (case hg => rfl); (case hr => first | (go_simp; done) | (go_simp; rfl)); intro gt hg w1 hbox hb; have Bgt := Aside0.mk hbox; replace HB := Aside0.mk (xaV HB.out hb); clear hb hbox hg; obtain ⟨⟨cgt_0, cgt_1, cgt_2, cgt_3, cgt_4, cgt_5, cgt_6, cgt_7, cgt_8, cgt_9, cgt_10⟩, ygt_⟩ := blk11 Bgt) | (go_at_call 72; (with_reducible refine (HF.out _).mono ?_); rintro e w5 ⟨A', c', rfl, hs, hb⟩; have HS := Aside0.mk hs; have HB5 := Aside0.mk hb; clear hs hb))
  go_ret2
  exact ⟨A', c', rfl, HS.out.low HB.out.size, HB.out.trans (HB5.out.mono HB.out.size)⟩
 ·
  have t0 : (re == 0) = false := beq_eq_false_iff_ne.2 he
  clear he
  go_enter Tryz.func48, Tryz.ntmps48
  go_wp2_with (first | ((with_reducible refine xaU (N := 3) rfl ?_); refine xaT ?hg (N := 3) ?hd (cs := #[.int .i64 3, .int .i64 0, .int .i64 0, .float .f64 x, .float .f64 y, .int .i64 a, .int .i64 b, .int .i64 cur, .int .i64 kind, .int .i64 n, .int .i64 0]) (t := 103) ?hr ?_; (case hd => rfl); (case hg => rfl); (case hr => first | (go_simp; done) | (go_simp; rfl)); intro gt hg w1 hbox hb; have Bgt := Aside0.mk hbox; replace HB := Aside0.mk (xaV HB.out hb); clear hb hbox hg; obtain ⟨⟨cgt_0, cgt_1, cgt_2, cgt_3, cgt_4, cgt_5, cgt_6, cgt_7, cgt_8, cgt_9, cgt_10⟩, ygt_⟩ := blk11 Bgt) | (go_at_call 72; (with_reducible refine (HF.out _).mono ?_); rintro e w5 ⟨A', c', rfl, hs, hb⟩; have HS := Aside0.mk hs; have HB5 := Aside0.mk hb; clear hs hb))
  go_ret2
  exact ⟨A', c', rfl, HS.out.low HB.out.size, HB.out.trans (HB5.out.mono HB.out.size)⟩
theorem flows1 (kind cur : Int) (x y : Nat) (a b n : Int) (rl : List S48) (re : Int) (w : World) (hl : rl.length ≤ 4096) (A : Option Addr) (hr : Kd.C k103 w A 1 [⟨3, 0, 0, x, y, a, b, cur, kind, n, 0⟩]) (hck : (checkT [⟨3, 0, 0, x, y, a, b, cur, kind, n, 0⟩]).1 = 0) (herr : re ≠ 0 → rl = []) (hf : ∀ w, Calls Tryz.prog 48 #[.agg #[.int .i64 3, .int .i64 0, .int .i64 0, .float .f64 x, .float .f64 y, .int .i64 a, .int .i64 b, .int .i64 cur, .int .i64 kind, .int .i64 n, .int .i64 0], .slice none 0 0, .int .i64 4096] w fun e w' => ∃ A' c', e = .returned (.tuple #[.slice A' rl.length c', .int .i64 re]) ∧ Sl k48 48 w' w.heap.size (fun _ => True) A' c' rl ∧ Below w.heap.size w w') : Calls Tryz.prog 28 #[.slice A 1 1] w fun e w' => ∃ A' c', e = .returned (.tuple #[.slice A' rl.length c', .int .i64 re]) ∧ Sl k48 48 w' w.heap.size (fun _ => True) A' c' rl ∧ Below w.heap.size w w' := by
 have HB := Aside0.mk (Below.refl w.heap.size w)
 have HF := Aside0.mk hf;have HL := Aside0.mk hl;have hR := hr;have HR := Aside0.mk hR
 obtain ⟨z, hz⟩ : ∃ z, z = (checkT [⟨3, 0, 0, x, y, a, b, cur, kind, n, 0⟩]).2 := ⟨_, rfl⟩
 have hc : Calls Tryz.prog 45 #[.slice A 1 1] w fun e w' => e = .returned (.tuple #[.int .i64 0, .int .i64 z]) ∧ Below w.heap.size w w' := by rw [← hck, hz]; exact xfV [⟨3, 0, 0, x, y, a, b, cur, kind, n, 0⟩] A 1 w hr
 clear hz;have HC := Aside0.mk hc;have HERR := Aside0.mk herr;clear hf hl hR hc hck herr
 go_enter Tryz.func28, Tryz.ntmps28
 go_wp2_with (go_at_call 45; (with_reducible refine (HC.out).mono ?_); rintro e w1 ⟨rfl, hb⟩; replace HB := Aside0.mk hb; clear hb)
 go_loopg [6, 7, 23] 1 (fun kq v6 v7 v23 w' => (kq = 1 ∧ (∃ i : Nat, Aside0 (i = 0) ∧ v23 = .int .i64 (i : Int)) ∧ v6 = .slice none 0 0 ∧ v7 = .slice none 0 0 ∧ Aside0 (Below w.heap.size w w')) ∨ (kq = 0 ∧ v23 = .int .i64 1 ∧ re = 0 ∧ ∃ A' c', v6 = .slice A' rl.length c' ∧ Aside0 (Sl k48 48 w' w.heap.size (fun _ => True) A' c' rl) ∧ Aside0 (Below w.heap.size w w')))
 case atStart => exact Or.inl ⟨rfl, ⟨0, ⟨rfl⟩, rfl⟩, rfl, rfl, ⟨by repeat (first | exact HB.out | apply xaJ | apply xaM)⟩⟩
 case round =>
  rcases hrel with ⟨hk, ⟨i, HI, rfl⟩, rfl, rfl, HBW⟩ | ⟨hk, rfl, hre, A', c', rfl, HS, HBW⟩
  ·
   obtain ⟨ad, e, h0, h1, h2, h3, h4, h5, h6, h7, h8, h9, h10⟩ := xfW (Kd.xbP HR.out HBW.out) (i : Int) (by omega) (by have := HI.out; omega)
   subst e
   rw [show xdR [⟨3, 0, 0, x, y, a, b, cur, kind, n, 0⟩] (i : Int) = ⟨3, 0, 0, x, y, a, b, cur, kind, n, 0⟩ by rw [HI.out]; rfl] at h0 h1 h2 h3 h4 h5 h6 h7 h8 h9 h10
   rw [Int.toNat_natCast] at h0 h1 h2 h3 h4 h5 h6 h7 h8 h9 h10
   simp only at h0 h1 h2 h3 h4 h5 h6 h7 h8 h9 h10
   have t1 : decide ((i : Int) < 1) = true := decide_eq_true (by have := HI.out; omega)
   have t2 : decide (i < 1) = true := decide_eq_true (by have := HI.out; omega)
   have hi1 : i < 1 := by have := HI.out; omega
   go_upto_region 9 with (fail)
   clear h0 h1 h2 h3 h4 h5 h6 h7 h8 h9 h10
   have BP := Aside0.mk (xbB wr (.cells #[.int .i64 3, .int .i64 0, .int .i64 0, .float .f64 x, .float .f64 y, .int .i64 a, .int .i64 b, .int .i64 cur, .int .i64 kind, .int .i64 n, .int .i64 0] 103))
   replace HBW := Aside0.mk (xaC HBW.out (.cells #[.int .i64 3, .int .i64 0, .int .i64 0, .float .f64 x, .float .f64 y, .int .i64 a, .int .i64 b, .int .i64 cur, .int .i64 kind, .int .i64 n, .int .i64 0] 103))
   generalize wr.heap.size = gp at BP ⊢
   generalize wr.alloc (.cells #[.int .i64 3, .int .i64 0, .int .i64 0, .float .f64 x, .float .f64 y, .int .i64 a, .int .i64 b, .int .i64 cur, .int .i64 kind, .int .i64 n, .int .i64 0] 103) = W at BP HBW ⊢
   obtain ⟨⟨cgp_0, cgp_1, cgp_2, cgp_3, cgp_4, cgp_5, cgp_6, cgp_7, cgp_8, cgp_9, cgp_10⟩, ygp_⟩ := blk11 BP
   have hp3 : ∀ w, Calls Tryz.prog 47 #[.int .i64 3] w fun e w' => e = .returned (.int .i64 0) ∧ w' = w := fun w => xdL 3 w
   have HP3 := Aside0.mk hp3;clear hp3
   go_upto_region 16 with (go_at_call 47; (with_reducible refine (HP3.out _).mono ?_); rintro e w' ⟨rfl, hw_⟩; obtain rfl := hw_.symm)
   clear cgp_0 cgp_1 cgp_2 cgp_3 cgp_4 cgp_5 cgp_6 cgp_7 cgp_8 cgp_9 cgp_10 ygp_
   have hS : ∀ w', Below W.heap.size W w' → (fun w' => w'.cell? ⟨gp, 0, none⟩ = some (.int .i64 3) ∧ w'.cell? ⟨gp, 1, none⟩ = some (.int .i64 0) ∧ w'.cell? ⟨gp, 2, none⟩ = some (.int .i64 0) ∧ w'.cell? ⟨gp, 3, none⟩ = some (.float .f64 x) ∧ w'.cell? ⟨gp, 4, none⟩ = some (.float .f64 y) ∧ w'.cell? ⟨gp, 5, none⟩ = some (.int .i64 a) ∧ w'.cell? ⟨gp, 6, none⟩ = some (.int .i64 b) ∧ w'.cell? ⟨gp, 7, none⟩ = some (.int .i64 cur) ∧ w'.cell? ⟨gp, 8, none⟩ = some (.int .i64 kind) ∧ w'.cell? ⟨gp, 9, none⟩ = some (.int .i64 n) ∧ w'.cell? ⟨gp, 10, none⟩ = some (.int .i64 0)) w' := fun w' hb => by
    have hbo := xaK BP.out hb
    exact ⟨(xaA hbo 0).trans rfl, (xaA hbo 1).trans rfl, (xaA hbo 2).trans rfl, (xaA hbo 3).trans rfl, (xaA hbo 4).trans rfl, (xaA hbo 5).trans rfl, (xaA hbo 6).trans rfl, (xaA hbo 7).trans rfl, (xaA hbo 8).trans rfl, (xaA hbo 9).trans rfl, (xaA hbo 10).trans rfl⟩
   refine start_ (n := 13) (S := fun w' => w'.cell? ⟨gp, 0, none⟩ = some (.int .i64 3) ∧ w'.cell? ⟨gp, 1, none⟩ = some (.int .i64 0) ∧ w'.cell? ⟨gp, 2, none⟩ = some (.int .i64 0) ∧ w'.cell? ⟨gp, 3, none⟩ = some (.float .f64 x) ∧ w'.cell? ⟨gp, 4, none⟩ = some (.float .f64 y) ∧ w'.cell? ⟨gp, 5, none⟩ = some (.int .i64 a) ∧ w'.cell? ⟨gp, 6, none⟩ = some (.int .i64 b) ∧ w'.cell? ⟨gp, 7, none⟩ = some (.int .i64 cur) ∧ w'.cell? ⟨gp, 8, none⟩ = some (.int .i64 kind) ∧ w'.cell? ⟨gp, 9, none⟩ = some (.int .i64 n) ∧ w'.cell? ⟨gp, 10, none⟩ = some (.int .i64 0)) (ds := []) #[false, false, false, false, false, false, false, false, false, false, false, false, false] (by kernel_rfl) rfl rfl (hS _ (xaM (Below.refl _ _))) (fun hHeld => ?_)
   refine rT 0 ?_
   refine rP 1 ?_
   refine rP 2 ?_
   refine rP 3 ?_
   refine rP 4 ?_
   refine rP 5 ?_
   refine rP 6 ?_
   refine rO 7 (fun K hK => ?_)
   refine goes_ Tryz.func48 (by kernel_rfl) rfl #[.agg #[.int .i64 3, .int .i64 0, .int .i64 0, .float .f64 x, .float .f64 y, .int .i64 a, .int .i64 b, .int .i64 cur, .int .i64 kind, .int .i64 n, .int .i64 0], .slice none 0 0, .int .i64 (wrap64 4096)] (by rfl) rfl rfl (by (try simp only [List.map_toArray, List.map_cons, List.map_nil]); first | done | rfl) ?_
   rw [show wrap64 4096 = 4096 from L.w64 (by omega) (by omega)]
   refine (HF.out _).mono ?_
   rintro e w5 ⟨A', c', rfl, hs, hb⟩
   refine ⟨_, rfl, ?_⟩
   have hb5 : Below W.heap.size W w5 := (xaM (Below.refl W.heap.size W)).trans hb
   have HS := Aside0.mk (hs.low HBW.out.size)
   refine hK.out _ _ (hS _ hb5) (fun hHeld => ?_)
   clear hK K hHeld
   refine rN ?_
   refine rP 8 ?_
   refine rP 9 ?_
   refine rP 10 ?_
   refine rP 11 ?_
   refine rP 12 ?_
   refine rD ?_
   have HB5 := Aside0.mk (HBW.out.trans (hb5.mono HBW.out.size))
   clear hs hb hb5 hS
   by_cases he : re = 0
   ·
    subst he
    go_wp2_with ((with_reducible refine xaR (b := .append) (xs := #[.tmp 75, .tmp 76]) rfl ?_); at_builtin; refine Kd.xdH k48 (w0 := w) w.heap.size rfl (.tmp 75) (.tmp 76) 24 48 (.agg #[.int .i64 0, .float .f64 0, .int .i64 0]) 24 rfl Tryz.underlying24 info48 rfl (by decide) (by omega) (.slice none 0 0) [] rl A' rl.length c' (fun _ => True) (fun _ => False) rfl rfl (Kd.R_nil _ _ _ _ _) HS.out.C (fun _ _ h => h) (fun _ h => h.elim) (fun _ _ => trivial) HB5.out HB5.out.size ?aL ?_; (case aL => have := HL.out; simp only [List.length_nil]; omega); intro v1 w6 ho hb hg hat; rw [List.nil_append] at ho; have HO1 := Aside0.mk ho; replace HB5 := Aside0.mk hb; clear ho hb hg hat)
    obtain ⟨A1, c1, rfl, hs1⟩ := Sl.of_R HO1.out
    have HS1 := Aside0.mk hs1;clear hs1
    go_roundg 0
    case measure => omega
    case rel => exact Or.inr ⟨rfl, by have h_ := HI.out; subst h_; first | rfl | go_num, by first | rfl | trivial, A1, c1, rfl, ⟨HS1.out.below (xaM (xaC (xaC (Below.refl _ _) _) _))⟩, ⟨xaM (xaC (xaC HB5.out _) _)⟩⟩
   ·
    have t0 : (re != 0) = true := bne_iff_ne.mpr he
    have hrl := HERR.out he;subst hrl
    go_wp2_with fail
    go_ret2
    exact ⟨none, 0, rfl, Sl.nil _ _ _ _ _, HB5.out⟩
  ·
   go_wp2_with (go_at_call 35; (with_reducible refine (xgF _ _ _ _ HS.out.le HS.out.lim).mono ?_); rintro e w7 ⟨rfl, hw_⟩; obtain rfl := hw_.symm)
   go_ret2
   have hs2 := HS.out.head rl.length rl.length (Nat.le_refl _) (Nat.le_refl _) HS.out.le
   rw [List.take_length] at hs2
   exact ⟨A', rl.length, by rw [hre]; rfl, hs2, HBW.out⟩
def chkGo : List S37 → Int → Int → Int → Int × Int × Int
 | [], i, m, most => if 0 < m then (180, i, 0) else (0, 0, most)
 | o :: r, i, m, most =>
  if xcC o = false then (180, i, 0)
  else if addsB o.f0 = true then chkGo r (i + 1) m most
  else if o.f0 = 1 then (if 63 < m + 1 then (172, i, 0) else chkGo r (i + 1) (m + 1) (max most (m + 1)))
  else if m = 0 then (180, i, 0) else chkGo r (i + 1) (m - 1) most
def chk (l : List S37) : Int × Int × Int := if 8192 < l.length then (2, 0, 0) else chkGo l 0 0 0
theorem rd37 {l : List S37} {i : Nat} (h : i < l.length) : rd_T37 l (i : Int) = l[i] := by
  unfold rd_T37; rw [Int.toNat_natCast, List.getD_eq_getElem?_getD, List.getElem?_eq_getElem h]; rfl
theorem check_c (l : List S37) (A : Option Addr) (c : Nat) (w : World) (hk : KT w) (hr : Kd.C k37 w A l.length l) : Calls Tryz.prog 40 #[.slice A l.length c] w fun e w' => e = .returned (.tuple #[.int .i64 (chk l).1, .int .i64 (chk l).2.1, .int .i64 (chk l).2.2]) ∧ Below w.heap.size w w' := by
 have HR := Aside0.mk hr;have HK := Aside0.mk hk;clear hr hk
 by_cases h1 : 8192 < l.length
 ·
  have t1 : decide ((8192 : Int) < (l.length : Int)) = true := decide_eq_true (by omega)
  have e : chk l = (2, 0, 0) := by unfold chk; rw [if_pos h1]
  rw [e]
  clear e h1
  go_enter Tryz.func40, Tryz.ntmps40
  go_wp2_with fail
  refine bodyPost_ret (results_tmp3 rfl _ _ _) rfl ⟨rfl, Below.refl _ _⟩
 have t1 : decide ((8192 : Int) < (l.length : Int)) = false := decide_eq_false (by omega)
 have e : chk l = chkGo l 0 0 0 := by unfold chk; rw [if_neg h1]
 generalize hres : chk l = res at e ⊢
 have HE := Aside0.mk e
 have HL : Aside0 (l.length ≤ 8192) := ⟨by omega⟩
 clear e hres h1
 go_enter Tryz.func40, Tryz.ntmps40
 go_wp2_with fail
 go_loopg [4, 5, 13] (l.length) (fun kq v4 v5 v13 w' => ∃ (i : Nat) (m most : Int), i ≤ l.length ∧ kq + i = l.length ∧ v4 = .int .i64 most ∧ v5 = .int .i64 m ∧ v13 = .int .i64 (i : Int) ∧ 0 ≤ m ∧ m ≤ 63 ∧ 0 ≤ most ∧ most ≤ 63 ∧ Aside0 (Below w.heap.size w w') ∧ Aside0 (chkGo l 0 0 0 = chkGo (l.drop i) (i : Int) m most))
 case atStart => exact ⟨0, 0, 0, by omega, by omega, rfl, rfl, rfl, by omega, by omega, by omega, by omega, ⟨Below.refl _ _⟩, ⟨rfl⟩⟩
 case round =>
  obtain ⟨i, m, most, hi, hik, rfl, rfl, rfl, hm0, hm1, hs0, hs1, HB, HC⟩ := hrel
  by_cases hil : i < l.length
  rotate_left
  ·
   have t2 : decide (i < l.length) = false := decide_eq_false hil
   have hfin : res = (if 0 < m then (180, (i : Int), 0) else (0, 0, most)) := by rw [HE.out, HC.out, List.drop_eq_nil_of_le (by omega)]; rfl
   have hli : (l.length : Int) = (i : Int) := by omega
   have HF := Aside0.mk hfin;have HLI := Aside0.mk hli;clear hfin hli
   by_cases a1 : 0 < m
   ·
    have u1 : decide (0 < m) = true := decide_eq_true a1
    have HA := Aside0.mk a1;clear a1
    go_wp2_with fail
    have e := HF.out
    rw [if_pos (by have := HA.out; omega)] at e
    rw [e]
    rw [HLI.out]
    refine bodyPost_ret (results_tmp3 rfl _ _ _) rfl ⟨rfl, HB.out⟩
   ·
    have u1 : decide (0 < m) = false := decide_eq_false a1
    have HA := Aside0.mk a1;clear a1
    go_wp2_with fail
    have e := HF.out
    rw [if_neg (by have := HA.out; omega)] at e
    rw [e]
    refine bodyPost_ret (results_tmp3 rfl _ _ _) rfl ⟨rfl, HB.out⟩
  have t2 : decide (i < l.length) = true := decide_eq_true hil
  have hc := Kd.xbP HR.out HB.out
  obtain ⟨ad, e, q0, q1, q2, q3, q4, q5, q6, q7, q8⟩ := at_T37 hc (i : Int) (by omega) (by omega)
  subst e
  rw [rd37 hil] at q0 q1 q2 q3 q4 q5 q6 q7 q8
  rw [Int.toNat_natCast] at q0 q1 q2 q3 q4 q5 q6 q7 q8
  have HT := Aside0.mk (List.drop_eq_getElem_cons hil)
  obtain ⟨x, hx⟩ : ∃ x, x = l[i] := ⟨_, rfl⟩
  rw [← hx] at HT q0 q1 q2 q3 q4 q5 q6 q7 q8
  clear hx hc
  have B7 := Aside0.mk (xbB wr (.cells #[.int .i64 x.f0, .float .f64 x.f1, .float .f64 x.f2, .int .i64 x.f3, .int .i64 x.f4, .int .i64 x.f5, .int .i64 x.f6, .int .i64 x.f7, .int .i64 x.f8] 37))
  have HB1 := Aside0.mk (xaC HB.out (.cells #[.int .i64 x.f0, .float .f64 x.f1, .float .f64 x.f2, .int .i64 x.f3, .int .i64 x.f4, .int .i64 x.f5, .int .i64 x.f6, .int .i64 x.f7, .int .i64 x.f8] 37))
  have HK1 : Aside0 (KT (wr.alloc (.cells #[.int .i64 x.f0, .float .f64 x.f1, .float .f64 x.f2, .int .i64 x.f3, .int .i64 x.f4, .int .i64 x.f5, .int .i64 x.f6, .int .i64 x.f7, .int .i64 x.f8] 37))) := ⟨HK.out.below HB1.out⟩
  obtain ⟨c0, c1, c2, c3, c4, c5, c6, c7, c8, z0, z1, z2, z3, z4, z5, z6, z7, z8⟩ := blk9 B7
  clear z0 z1 z2 z3 z4 z5 z6 z7 z8
  have hmx : (i : Int) + 1 ≤ 9223372036854775807 := by have := HL.out; omega
  have hstep : ∀ r, chkGo (x :: l.drop (i + 1)) (i : Int) m most = r → res = r := fun r h => by rw [HE.out, HC.out, HT.out, h]
  have HST := Aside0.mk hstep;clear hstep
  go_wp2_with fail
  refine (fieldsO_c x.f0 x.f1 x.f2 x.f3 x.f4 x.f5 x.f6 x.f7 x.f8 _ HK1.out).mono ?_
  rintro e w2 ⟨rfl, hb⟩
  have B8 := Aside0.mk (xaK B7.out hb)
  have HB2 := Aside0.mk (HB1.out.trans (hb.mono HB1.out.size))
  clear c0 c1 c2 c3 c4 c5 c6 c7 c8 q0 q1 q2 q3 q4 q5 q6 q7 q8 hb
  obtain ⟨c0, c1, c2, c3, c4, c5, c6, c7, c8, z0, z1, z2, z3, z4, z5, z6, z7, z8⟩ := blk9 B8
  clear z0 z1 z2 z3 z4 z5 z6 z7 z8 c1 c2 c3 c4 c5 c6 c7 c8
  by_cases a1 : xcC ⟨x.f0, x.f1, x.f2, x.f3, x.f4, x.f5, x.f6, x.f7, x.f8⟩ = true
  rotate_left
  ·
   replace a1 := Bool.eq_false_iff.2 a1
   rw [a1]
   have HA := Aside0.mk (show xcC x = false from a1)
   clear a1
   go_wp2_with fail
   have e := HST.out (180, (i : Int), 0) (by rw [chkGo, if_pos HA.out])
   rw [e]
   refine bodyPost_ret (results_tmp3 rfl _ _ _) rfl ⟨rfl, HB2.out⟩
  rw [a1]
  have HA := Aside0.mk (show xcC x = true from a1)
  clear a1
  by_cases a2 : addsB x.f0 = true
  ·
   go_wp2_with ((go_at_call 67; (with_reducible refine (adds_c _ _).mono ?_); rintro e w' ⟨rfl, hw_⟩; obtain rfl := hw_.symm; rw [a2]))
   go_roundg (gk - 1)
   case measure => omega
   case rel => exact ⟨i + 1, m, most, by omega, by omega, rfl, rfl, by go_num, hm0, hm1, hs0, hs1, HB2, ⟨by rw [HC.out, HT.out, chkGo, if_neg (by rw [HA.out]; decide), if_pos a2]; rfl⟩⟩
  have ha2 := Bool.eq_false_iff.2 a2;have HA2 := Aside0.mk a2;clear a2
  by_cases a3 : x.f0 = 1
  ·
   have HA3 := Aside0.mk a3
   rw [a3] at c0
   have ha4 : addsB 1 = false := rfl
   rw [a3] at ha2
   clear a3
   have hw1 : IntKind.i64.wrap (m + 1) = m + 1 := by rw [i64_w]; unfold wrap64; omega
   have hmax : (if most < m + 1 then m + 1 else most) = max most (m + 1) := by rw [Int.max_def]; split <;> split <;> omega
   by_cases a4 : 63 < m + 1
   ·
    have u1 : decide (63 < m + 1) = true := decide_eq_true a4
    have HA4 := Aside0.mk a4;clear a4
    go_wp2_with ((go_at_call 67; (with_reducible refine (adds_c _ _).mono ?_); rintro e w' ⟨rfl, hw_⟩; obtain rfl := hw_.symm; rw [ha2]))
    have e := HST.out (172, (i : Int), 0) (by rw [chkGo, if_neg (by rw [HA.out]; decide), if_neg HA2.out, if_pos HA3.out, if_pos HA4.out])
    rw [e]
    refine bodyPost_ret (results_tmp3 rfl _ _ _) rfl ⟨rfl, HB2.out⟩
   ·
    have u1 : decide (63 < m + 1) = false := decide_eq_false a4
    have HA4 := Aside0.mk a4;clear a4
    go_wp2_with ((go_at_call 67; (with_reducible refine (adds_c _ _).mono ?_); rintro e w' ⟨rfl, hw_⟩; obtain rfl := hw_.symm; rw [ha2]))
    go_roundg (gk - 1)
    case measure => omega
    case rel => exact ⟨i + 1, m + 1, max most (m + 1), by omega, by omega, by first | rfl | simp [hmax], rfl, by go_num, by omega, by have := HA4.out; omega, by omega, by have := HA4.out; omega, HB2, ⟨by rw [HC.out, HT.out, chkGo, if_neg (by rw [HA.out]; decide), if_neg HA2.out, if_pos HA3.out, if_neg (by have := HA4.out; omega)]; rfl⟩⟩
  have t3 : (x.f0 == 1) = false := by rw [beq_eq_false_iff_ne]; exact a3
  have HA3 := Aside0.mk a3;clear a3
  by_cases a5 : m = 0
  ·
   have u1 : (m == 0) = true := beq_iff_eq.2 a5
   have HA5 := Aside0.mk a5;clear a5
   go_wp2_with ((go_at_call 67; (with_reducible refine (adds_c _ _).mono ?_); rintro e w' ⟨rfl, hw_⟩; obtain rfl := hw_.symm; rw [ha2]))
   have e := HST.out (180, (i : Int), 0) (by rw [chkGo, if_neg (by rw [HA.out]; decide), if_neg HA2.out, if_neg HA3.out, if_pos HA5.out])
   rw [e]
   refine bodyPost_ret (results_tmp3 rfl _ _ _) rfl ⟨rfl, HB2.out⟩
  have u1 : (m == 0) = false := by rw [beq_eq_false_iff_ne]; exact a5
  have HA5 := Aside0.mk a5
  have hw1 : IntKind.i64.wrap (m - 1) = m - 1 := by rw [i64_w]; unfold wrap64; omega
  go_wp2_with ((go_at_call 67; (with_reducible refine (adds_c _ _).mono ?_); rintro e w' ⟨rfl, hw_⟩; obtain rfl := hw_.symm; rw [ha2]))
  go_roundg (gk - 1)
  case measure => omega
  case rel => exact ⟨i + 1, m - 1, most, by omega, by omega, rfl, rfl, by go_num, by omega, by omega, hs0, hs1, HB2, ⟨by rw [HC.out, HT.out, chkGo, if_neg (by rw [HA.out]; decide), if_neg HA2.out, if_neg HA3.out, if_neg HA5.out]; rfl⟩⟩
theorem check31 (l : List S37) (A : Option Addr) (c : Nat) (w : World) (hk : KT w) (hr : Kd.C k37 w A l.length l) : Calls Tryz.prog 31 #[.slice A l.length c] w fun e w' => e = .returned (.tuple #[.int .i64 (chk l).1, .int .i64 (chk l).2.1]) ∧ Below w.heap.size w w' := by
 have HR := Aside0.mk hr;have HK := Aside0.mk hk;clear hr hk
 go_enter Tryz.func31, Tryz.ntmps31
 go_wp2_with (go_at_call 40; go_loud ((with_reducible refine (check_c _ _ _ _ HK.out HR.out).mono ?_); rintro e w1 ⟨rfl, hb⟩; have HB := Aside0.mk hb; clear hb))
 go_ret2
 exact ⟨rfl, HB.out⟩
def CkC (l : List S37) (ck : Int × Int) : Prop :=
  ∀ (w : World) (A : Option Addr) (c : Nat), KT w → Kd.C k37 w A l.length l → Calls Tryz.prog 31 #[.slice A l.length c] w fun e w' => e = .returned (.tuple #[.int .i64 ck.1, .int .i64 ck.2]) ∧ Below w.heap.size w w'
theorem ck_chk (l : List S37) : CkC l ((chk l).1, (chk l).2.1) := fun w A c hk hr => check31 l A c w hk hr
def st0 (l : List S37) : St := ⟨l, 0, [], [], false, 0⟩
theorem inv0 (l : List S37) : Inv (st0 l) :=
  ⟨⟨Nat.zero_le _, fun _ h => (by cases h), fun _ h => (by cases h), List.Pairwise.nil⟩, ⟨Int.le_refl _, by show (0 : Int) ≤ _; omega⟩, fun _ => rfl, Nat.zero_le _⟩
theorem Sl.ownF {α : Type} {d : Kd α} {e : TypeId} {w : World} {base : Nat} {F : Nat → Prop} {A : Option Addr} {c : Nat} {xs : List α} (h : Sl d e w base F A c xs) : Sl d e w base (own A) A c xs :=
  ⟨h.le, h.lim, h.row.imp_right (fun ⟨b, off, cur, inner, h1, h2, h3, h4, h5⟩ => ⟨b, off, cur, inner, h1, ⟨_, h1, rfl⟩, h3, h4, h5⟩)⟩
theorem Sl.own_bd {α : Type} {d : Kd α} {e : TypeId} {w : World} {base : Nat} {F : Nat → Prop} {A : Option Addr} {c : Nat} {xs : List α} (h : Sl d e w base F A c xs) : ∀ k, own A k → base ≤ k ∧ k < w.heap.size := fun k hk => by
 obtain ⟨a, rfl, rfl⟩ := hk
 rcases h.row with ⟨h1, _⟩ | ⟨b, off, cur, inner, h1, _, h3, h4, _⟩
 ·
  cases h1
 ·
  injection h1 with h1; subst h1; exact ⟨h3, blk_lt h4⟩
section
variable {w : World} {l : List S37} {ck : Int × Int} {A : Option Addr} {c : Nat}
theorem new_bad (hkt : KT w) (hr : Kd.C k37 w A l.length l) (hck : CkC l ck) (hne : ck.1 ≠ 0) :
  Calls Tryz.prog 14 #[.slice A l.length c] w fun e w' => e = .returned (.tuple #[.pointer none, .int .i64 ck.1, .int .i64 ck.2]) ∧ Below w.heap.size w w' := by
 unfold CkC at hck
 obtain ⟨e1, a1⟩ := ck
 simp only at hck hne ⊢
 have HCK := Aside0.mk hck;have HR := Aside0.mk hr;have HKT := Aside0.mk hkt
 have t1 : (e1 != 0) = true := by rw [bne, beq_eq_false_iff_ne.2 hne]; rfl
 clear hkt hck hr hne
 go_enter Tryz.func14, Tryz.ntmps14
 go_wp2_with (go_at_call 31; go_loud ((with_reducible refine (HCK.out _ _ _ HKT.out HR.out).mono ?_); rintro e w1 ⟨rfl, hb⟩; have HB := Aside0.mk hb; clear hb))
 refine bodyPost_ret (results_tmp3 rfl _ _ _) rfl ⟨rfl, HB.out⟩
theorem new_ok (hkt : KT w) (hr : Kd.C k37 w A l.length l) (hck : CkC l ck) (he : ck.1 = 0) (hl : l.length ≤ 8192) :
  Calls Tryz.prog 14 #[.slice A l.length c] w fun e w' => ∃ gn A1 c1, e = .returned (.tuple #[.pointer (some ⟨gn, 0, none⟩), .int .i64 0, .int .i64 0]) ∧ Below w.heap.size w w' ∧ Mx w' w.heap.size gn (fun k => k = gn) A1 c1 none 0 none 0 (st0 l) ∧ (∀ k, own A1 k → w.heap.size ≤ k) := by
 unfold CkC at hck
 obtain ⟨e1, a1⟩ := ck
 simp only at hck he
 subst he;have HCK := Aside0.mk hck;have HR := Aside0.mk hr;have HKT := Aside0.mk hkt;have HL := Aside0.mk hl;clear hkt hck hr hl
 go_enter Tryz.func14, Tryz.ntmps14
 go_wp2_with (first | (go_at_call 31; go_loud ((with_reducible refine (HCK.out _ _ _ HKT.out HR.out).mono ?_); rintro e w1 ⟨rfl, hb⟩; have HB := Aside0.mk hb; clear hb)) | (go_at_call 32; go_loud ((with_reducible refine (clone_op _ _ _ _ (Kd.xbP HR.out HB.out) (by have := HL.out; omega)).mono ?_); rintro e w2 ⟨v, rfl, hr, hb⟩; obtain ⟨A1, k1, rfl, hs⟩ := Sl.of_R hr; have HS := Aside0.mk hs; have HB2 := Aside0.mk (HB.out.trans (hb.mono HB.out.size)); have HSB := Aside0.mk hb.size; clear hr hs hb)))
 have hz1 := HB.out.size;have hz2 := HSB.out
 refine bodyPost_ret (results_tmp3 rfl _ _ _) rfl ⟨w2.heap.size, A1, k1, rfl, xaC HB2.out _, ⟨xbB _ _, ?_, Sl.nil _ _ _ _ _, Sl.nil _ _ _ _ _, rfl, fun k hk => ⟨?_, ?_⟩, fun k hk hF => ?_⟩, fun k hk => ?_⟩
 ·
  exact ((HS.out.rebase hz1).ownF).below (xaC (Below.refl _ _) _)
 ·
  subst hk; omega
 ·
  subst hk; simp
 ·
  have := (HS.out.own_bd k hk).2; omega
 ·
  have := (HS.out.own_bd k hk).1; omega
def runT (fxs : S37 → List S48 × Int) (ck : Int × Int) (l : List S37) : List S48 × Int := if ck.1 = 0 then flowsT (stepM fxs (st0 l) 8193).2.2 else ([], ck.1)
theorem run_ok (hkt : KT w) (fxs : S37 → List S48 × Int) (hr : Kd.C k37 w A l.length l) (hck : CkC l ck) (hg : ck.1 = 0 → Good fxs l) :
  Calls Tryz.prog 10 #[.slice A l.length c] w fun e w' => ∃ A1 c1, e = .returned (.tuple #[.slice A1 (runT fxs ck l).1.length c1, .int .i64 (runT fxs ck l).2]) ∧ Sl k48 48 w' w.heap.size (fun _ => True) A1 c1 (runT fxs ck l).1 ∧ Below w.heap.size w w' := by
 have HR := Aside0.mk hr;have HKT := Aside0.mk hkt;have HCK := Aside0.mk hck
 by_cases he : ck.1 = 0
 ·
  have hgd := hg he;have HGD := Aside0.mk hgd;have HE := Aside0.mk he
  have e1 : runT fxs ck l = flowsT (stepM fxs (st0 l) 8193).2.2 := by unfold runT; rw [if_pos he]
  rw [e1]
  have HSI := Aside0.mk (step_inv (s := st0 l) hgd (inv0 l) 8193)
  generalize hst : stepM fxs (st0 l) 8193 = r at *
  have HST := Aside0.mk hst;clear hkt hr hck hg he hgd e1 hst
  go_enter Tryz.func10, Tryz.ntmps10
  go_wp2_with (first | (go_at_call 14; go_loud ((with_reducible refine (new_ok HKT.out HR.out HCK.out HE.out HGD.out.len).mono ?_); rintro e w1 ⟨gn, A1, k1, rfl, hb, hx, ho⟩; have HB := Aside0.mk hb; have HX := Aside0.mk hx; clear hb hx ho)) | (go_at_call 16; go_loud ((with_reducible refine (step_ok HX.out HGD.out (inv0 l) 8193 (by omega)).mono ?_); rintro e w2 ⟨rfl, hf, A2, n2, A3, n3, hm⟩; rw [HST.out] at hm; have HF := Aside0.mk hf; have HM := Aside0.mk hm; clear hf hm)) | (go_at_call 17; go_loud ((with_reducible refine (flows_ok HM.out HSI.out.1.ok.len).mono ?_); rintro e w3 ⟨A4, n4, rfl, hs, hb⟩; have HS := Aside0.mk hs; have HB3 := Aside0.mk hb; clear hs hb)))
  go_ret2
  have hz := HX.out.xbY;have hz2 := HF.out.size
  have hb2 : Below w.heap.size w w2 := HB.out.trans (HF.out.xcW hz (fun k hk => (HX.out.hF k hk).1))
  exact ⟨A4, n4, rfl, HS.out.rebase hb2.size, hb2.trans (HB3.out.mono hb2.size)⟩
 ·
  have e1 : runT fxs ck l = ([], ck.1) := by unfold runT; rw [if_neg he]
  have HE := Aside0.mk he
  have t1 : (ck.1 != 0) = true := by rw [bne, beq_eq_false_iff_ne.2 he]; rfl
  rw [e1]
  clear hkt hr hck hg he e1
  go_enter Tryz.func10, Tryz.ntmps10
  go_wp2_with (go_at_call 14; go_loud ((with_reducible refine (new_bad HKT.out HR.out HCK.out HE.out).mono ?_); rintro e w1 ⟨rfl, hb⟩; have HB := Aside0.mk hb; clear hb))
  go_ret2
  exact ⟨none, 0, rfl, Sl.nil _ _ _ _ _, HB.out⟩
end
def spF (a b n : Int) : S.Sp := ⟨a, b, n, 3, 1, 0, 0, 0, 0, []⟩
noncomputable def legF (kind cur : Int) (x y : Nat) (a b n : Int) : List S48 × Int := if (spF a b n).xdV.2 = 0 then payAll kind cur x y (spF a b n).xdV.1 [] else ([], (spF a b n).xdV.2)
noncomputable def fixF (o : S37) : List S48 × Int := legF o.f6 o.f5 o.f1 o.f2 o.f3 o.f4 o.f7
theorem paid_numb (kind cur : Int) (x y : Nat) (p : S145) (h : (paidF kind cur x y p).2 = 0) : numB (paidF kind cur x y p).1.f1 = true := by
 unfold paidF at h ⊢
 cases hr : floatBits .mul .f64 (mulN x y) (yearF kind p.f2 p.f3) with
 | none => rw [hr] at h; cases h
 | some r =>
  rw [hr] at h
  simp only at h ⊢
  by_cases hn : numB r = true
  ·
   rw [if_pos hn]; exact hn
  ·
   rw [if_neg hn] at h; cases h
theorem pay_num (kind cur : Int) (x y : Nat) : ∀ (l : List S145) (acc : List S48), (∀ f ∈ acc, numB f.f1 = true) → ∀ f ∈ (payAll kind cur x y l acc).1, numB f.f1 = true
 | [], acc, h => h
 | p :: ps, acc, h => by
  rw [payAll]
  by_cases he : (paidF kind cur x y p).2 = 0
  ·
   rw [if_pos he]
   exact pay_num kind cur x y ps _ (fun f hf => (List.mem_append.1 hf).elim (h f) (fun hf => by rw [List.mem_singleton.1 hf]; exact paid_numb kind cur x y p he))
  ·
   rw [if_neg he]; exact fun f hf => (by cases hf)
theorem pay_len (kind cur : Int) (x y : Nat) : ∀ (l : List S145) (acc : List S48), (payAll kind cur x y l acc).1.length ≤ acc.length + l.length
 | [], acc => Nat.le_refl _
 | p :: ps, acc => by
  rw [payAll]
  split
  ·
   have := pay_len kind cur x y ps (acc ++ [(paidF kind cur x y p).1])
   simp only [List.length_append, List.length_cons, List.length_nil] at this ⊢; omega
  ·
   simp
theorem pay_err (kind cur : Int) (x y : Nat) : ∀ (l : List S145) (acc : List S48), (payAll kind cur x y l acc).2 ≠ 0 → (payAll kind cur x y l acc).1 = []
 | [], acc, h => absurd rfl h
 | p :: ps, acc, h => by
  rw [payAll] at h ⊢
  by_cases he : (paidF kind cur x y p).2 = 0
  ·
   rw [if_pos he] at h ⊢; exact pay_err kind cur x y ps _ h
  ·
   rw [if_neg he]
theorem per_len (a b n : Int) : (spF a b n).xdV.1.length ≤ 4096 := by
 unfold S.Sp.xdV
 by_cases h : (spF a b n).dates.2 = 0
 ·
  rw [if_pos h]
  have h1 := S.perF_len (spF a b n) (spF a b n).dates.1 ((spF a b n).dates.1.length - 1) 0 []
  have h2 := (S.dates_two h).2
  simp only [List.length_nil] at h1
  omega
 ·
  rw [if_neg h]; exact Nat.zero_le _
theorem per_in1 (s : S.Sp) (hs : s.emp) (x y : Int) (h : (s.per1 x y).2 = 0) : (0 ≤ (s.per1 x y).1.f2 ∧ (s.per1 x y).1.f2 ≤ 109572) ∧ (0 ≤ (s.per1 x y).1.f3 ∧ (s.per1 x y).1.f3 ≤ 109572) := by
 have ha : ∀ z, (s.adj z).2 = 0 → 0 ≤ (s.adj z).1 ∧ (s.adj z).1 ≤ 109572 := fun z hz => by
  unfold S.Sp.adj adj0 at hz ⊢
  by_cases h1 : 0 ≤ z ∧ z ≤ 109572
  ·
   rw [if_pos h1]; exact h1
  ·
   rw [if_neg h1] at hz; cases hz
 unfold S.Sp.per1 at h ⊢
 by_cases h1 : (s.adj x).2 = 0
 ·
  rw [if_pos h1] at h ⊢
  by_cases h2 : (s.adj y).2 = 0
  ·
   rw [if_pos h2] at h ⊢
   have h3 : ¬ s.lag > 0 := by rw [hs.2.2.2]; decide
   rw [if_neg h3] at h ⊢
   exact ⟨ha x h1, ha y h2⟩
  ·
   rw [if_neg h2] at h; exact absurd h h2
 ·
  rw [if_neg h1] at h; exact absurd h h1
theorem per_inF (s : S.Sp) (hs : s.emp) (l : List Int) : ∀ (f i : Nat) (acc : List S145), (∀ p ∈ acc, (0 ≤ p.f2 ∧ p.f2 ≤ 109572) ∧ (0 ≤ p.f3 ∧ p.f3 ≤ 109572)) → ∀ p ∈ (s.perF l f i acc).1, (0 ≤ p.f2 ∧ p.f2 ≤ 109572) ∧ (0 ≤ p.f3 ∧ p.f3 ≤ 109572)
 | 0, i, acc, h => by rw [S.Sp.perF]; exact h
 | f + 1, i, acc, h => by
  rw [S.Sp.perF]
  by_cases he : (s.per1 (rd l (i : Int)) (rd l ((i + 1 : Nat) : Int))).2 = 0
  ·
   rw [if_pos he]
   exact per_inF s hs l f (i + 1) _ (fun p hp => (List.mem_append.1 hp).elim (h p) (fun hp => by rw [List.mem_singleton.1 hp]; exact per_in1 s hs _ _ he))
  ·
   rw [if_neg he]; exact fun p hp => (by cases hp)
theorem emp_F (a b n : Int) : (spF a b n).emp := ⟨rfl, rfl, rfl, rfl⟩
theorem per_in (a b n : Int) : ∀ p ∈ (spF a b n).xdV.1, (0 ≤ p.f2 ∧ p.f2 ≤ 109572) ∧ (0 ≤ p.f3 ∧ p.f3 ≤ 109572) := by
 unfold S.Sp.xdV
 split
 ·
  exact per_inF _ (emp_F a b n) _ _ _ _ (fun p hp => (by cases hp))
 ·
  exact fun p hp => (by cases hp)
theorem begin_ev (kind cur : Int) (x y : Nat) (a b n : Int) (hc : 1 ≤ cur ∧ cur ≤ 8) (hx : numB x = true) (hy : numB y = true) : Ev (fun k => xeR.f k 1 kind cur x y a b n 3 1 0 0 0 0 [] 1) (spF a b n).xdV := by
 have hn : ∀ x, xbU.f x = some (numB x) := number_f
 have h1 : xcK.f cur = some true := by unfold xcK.f; rw [if_pos hc.1, decide_eq_true hc.2]
 refine Ev.congr (fun k => by unfold xeR.f; rw [if_pos rfl, h1, hn, hn, hx, hy]; rfl) (Ev.bind (S.sPeriods (spF a b n) (emp_F a b n)) (Ev.now _))
theorem leg_c (kind cur : Int) (x y : Nat) (a b n : Int) (hk : 1 ≤ kind ∧ kind ≤ 5) (hc : 1 ≤ cur ∧ cur ≤ 8) (hx : numB x = true) (hy : numB y = true) (w : World) :
  Calls Tryz.prog 96 #[.agg #[.int .i64 1, .int .i64 kind, .int .i64 cur, .float .f64 x, .float .f64 y, .int .i64 a, .int .i64 b, .int .i64 n, .int .i64 3, .int .i64 1, .int .i64 0, .int .i64 0, .int .i64 0, .int .i64 0, .slice none 0 0]] w fun e w' => ∃ A' c', e = .returned (.tuple #[.slice A' (legF kind cur x y a b n).1.length c', .int .i64 (legF kind cur x y a b n).2]) ∧ Sl k48 48 w' w.heap.size (fun _ => True) A' c' (legF kind cur x y a b n).1 ∧ Below w.heap.size w w' := by
 obtain ⟨k, hf⟩ := begin_ev kind cur x y a b n hc hx hy
 have hf' := hf k (Nat.le_refl _)
 have hlen := per_len a b n;have hin := per_in a b n
 unfold legF
 generalize (spF a b n).xdV = pe at *
 obtain ⟨l, ee⟩ := pe
 simp only at hlen hin ⊢
 have hg : ∀ w, Calls Tryz.prog 118 #[.agg #[.int .i64 1, .int .i64 kind, .int .i64 cur, .float .f64 x, .float .f64 y, .int .i64 a, .int .i64 b, .int .i64 n, .int .i64 3, .int .i64 1, .int .i64 0, .int .i64 0, .int .i64 0, .int .i64 0, .slice none 0 0], .int .i64 1] w fun e w' => ∃ v0, e = .returned (.tuple #[v0, .int .i64 ee]) ∧ Kd.R k145 145 w' w.heap.size (fun _ => True) v0 l ∧ Below w.heap.size w w' := fun w => xeR.calls k 1 kind cur x y a b n 3 1 0 0 0 0 none 0 [] 1 l ee w (Kd.C_nil _ _) (Nat.le_refl _) hf'
 by_cases he : ee = 0
 ·
  subst he
  rw [if_pos rfl]
  exact leg_ok kind cur x y a b n l w hk hx hy (by omega) hin hg _ _ rfl
 ·
  rw [if_neg he]
  refine (leg_err kind cur x y a b n l w ee he hg).mono ?_
  rintro e w' ⟨rfl, hb⟩
  exact ⟨none, 0, rfl, Sl.nil _ _ _ _ _, hb⟩
theorem legF_len (kind cur : Int) (x y : Nat) (a b n : Int) : (legF kind cur x y a b n).1.length ≤ 4096 := by
 unfold legF
 split
 ·
  have h1 := pay_len kind cur x y (spF a b n).xdV.1 []
  have h2 := per_len a b n
  simp only [List.length_nil] at h1
  omega
 ·
  exact Nat.zero_le _
theorem legF_err (kind cur : Int) (x y : Nat) (a b n : Int) (h : (legF kind cur x y a b n).2 ≠ 0) : (legF kind cur x y a b n).1 = [] := by
 unfold legF at h ⊢
 by_cases he : (spF a b n).xdV.2 = 0
 ·
  rw [if_pos he] at h ⊢; exact pay_err _ _ _ _ _ _ h
 ·
  rw [if_neg he]
theorem fixF_num (o : S37) : ∀ f ∈ (fixF o).1, numB f.f1 = true := by
 unfold fixF legF
 split
 ·
  exact pay_num _ _ _ _ _ _ (fun f hf => (by cases hf))
 ·
  exact fun f hf => (by cases hf)
theorem ckGo_fields : ∀ (l : List S103) (i : Nat) (f d : List Int), (ckGo l i f d).1 = none → ∀ x ∈ l, fieldsB x = true
 | [], _, _, _, _ => fun x hx => (by cases hx)
 | x :: r, i, f, d, h => by
  rw [ckGo] at h
  by_cases hc : (fieldsB x && (fitsP x.f0 x.f1 x.f2 i (f.set i (i : Int)) (d.set i 1)).1) = true
  ·
   rw [if_pos hc] at h
   intro z hz
   rcases List.mem_cons.1 hz with rfl | hz
   ·
    rw [Bool.and_eq_true] at hc; exact hc.1
   ·
    exact ckGo_fields r _ _ _ h z hz
  ·
   rw [if_neg hc] at h; cases h
theorem xgH {t : List S103} (h : (checkT t).1 = 0) : ∀ x ∈ t, fieldsB x = true := by
 unfold checkT at h
 by_cases h1 : 1024 < t.length
 ·
  rw [if_pos h1] at h; cases h
 ·
  rw [if_neg h1] at h
  by_cases h2 : t.length = 0
  ·
   rw [if_pos h2] at h; cases h
  ·
   rw [if_neg h2] at h
   rcases hc : ckGo t 0 (List.replicate t.length 0) (List.replicate t.length 0) with ⟨_ | i, f, d⟩
   ·
    exact ckGo_fields t 0 _ _ (by rw [hc])
   ·
    rw [hc] at h; cases h
theorem xiC {n lo hi : Int} : inB n lo hi = true ↔ lo ≤ n ∧ n ≤ hi := by unfold inB; simp
theorem xeQ {o : S37} (h : xcC o = true) : (1 ≤ o.f0 ∧ o.f0 ≤ 7) ∧ (o.f0 ≠ 1 → fieldsB (termO o) = true ∧ (checkT (treeO o)).1 = 0) := by
 unfold xcC at h
 by_cases h1 : o.f0 < 1 ∨ 7 < o.f0
 ·
  rw [if_pos h1] at h; cases h
 ·
  rw [if_neg h1] at h
  refine ⟨by omega, fun h2 => ?_⟩
  rw [if_neg h2] at h
  have hc : (checkT (treeO o)).1 = 0 := by simpa using h
  refine ⟨xgH hc _ ?_, hc⟩
  unfold treeO
  split <;> simp
theorem xeH {t : S103} (h : fieldsB t = true) : okT t = true ∧ sameT (keptT t) t = true := by
 unfold fieldsB at h
 rw [Bool.and_eq_true, Bool.and_eq_true] at h
 exact h.2
theorem op_ok {o : S37} (h : xcC o = true) : OkO (fixF o) o := by
 obtain ⟨hk, hf⟩ := xeQ h
 have hx : (o.f0 = 2 ∨ o.f0 = 5) → numB o.f1 = true := fun h2 => by
  have := (xeH (hf (by omega)).1).1
  unfold okT termO at this
  rcases h2 with h2 | h2
  ·
   rw [h2] at this; simp [kindsL, rdI] at this; exact this.1.1
  ·
   rw [h2] at this; simp [kindsL, rdI] at this; exact this
 have hr : o.f0 = 7 → 1 ≤ o.f7 ∧ o.f7 ≤ 4096 ∧ 0 ≤ o.f8 ∧ o.f8 ≤ 1200 := fun h2 => by
  have := (xeH (hf (by omega)).1).1
  unfold okT termO at this
  rw [h2] at this; simp [kindsL, rdI, xiC] at this; omega
 exact ⟨hk, hx, hr, fixF_num o⟩
theorem fix_c {o : S37} (h : xcC o = true) (h3 : o.f0 = 3) : FixC o (fixF o) ∧ (fixF o).1.length ≤ 100000 := by
 obtain ⟨hk, hf⟩ := xeQ h
 obtain ⟨hb, hc⟩ := hf (by omega)
 obtain ⟨h1, h2⟩ := xeH hb
 have hlen : (fixF o).1.length ≤ 4096 := legF_len _ _ _ _ _ _ _
 refine ⟨fun w A hr => ?_, by omega⟩
 have ht : treeO o = [⟨3, 0, 0, o.f1, o.f2, o.f3, o.f4, o.f5, o.f6, o.f7, 0⟩] := by
  unfold sameT keptT sameB termO at h2
  rw [h3] at h2; simp [kindsL, rdI] at h2
  unfold treeO addsB termO
  rw [h3]; simp [kindsL, rdI]
  exact h2.symm
 unfold okT termO at h1
 rw [h3] at h1
 simp [kindsL, rdI, xiC] at h1
 obtain ⟨⟨⟨⟨⟨⟨⟨hx, hy⟩, hc1⟩, ha⟩, hb1⟩, hab⟩, hn⟩, hcur⟩ := h1
 rw [ht] at hc
 have hL := leg_c o.f6 o.f5 o.f1 o.f2 o.f3 o.f4 o.f7 hc1 hcur hx hy
 have hF := fun w => fixed1 o.f6 o.f5 o.f1 o.f2 o.f3 o.f4 o.f7 _ _ w hL
 have hM := fun w => meant1 o.f6 o.f5 o.f1 o.f2 o.f3 o.f4 o.f7 _ _ w hlen hF
 exact flows1 o.f6 o.f5 o.f1 o.f2 o.f3 o.f4 o.f7 _ _ w hlen A hr hc (fun he => legF_err _ _ _ _ _ _ _ he) hM
theorem depth_cons (o : S37) (r : List S37) (j : Nat) : depthL ((o :: r).take (j + 1)) = dOf o + depthL (r.take j) := by
  unfold depthL; rw [List.take_succ_cons, List.map_cons, List.sum_cons]
theorem xhM : ∀ (r : List S37) (i m most a : Int), 0 ≤ m → m ≤ most → m ≤ 63 → (chkGo r i m most).1 = 0 →
  (∀ o ∈ r, xcC o = true) ∧ (∀ j, j ≤ r.length → m + depthL (r.take j) ≤ (chkGo r i m most).2.2 ∧ m + depthL (r.take j) ≤ 63) ∧ (∀ j (hj : j < r.length), 4 ≤ r[j].f0 → 0 < m + depthL (r.take j)) ∧ most ≤ (chkGo r i m most).2.2
 | [], i, m, most, a, h0, h1, h2, h => by
  rw [chkGo] at h ⊢
  by_cases hm : 0 < m
  ·
   rw [if_pos hm] at h; cases h
  ·
   rw [if_neg hm]
   refine ⟨fun o ho => (by cases ho), fun j hj => ?_, fun j hj => absurd hj (Nat.not_lt_zero _), Int.le_refl _⟩
   have : j = 0 := by simpa using hj
   subst this
   simp [depthL]; omega
 | o :: r, i, m, most, a, h0, h1, h2, h => by
  rw [chkGo] at h ⊢
  by_cases hf : xcC o = false
  ·
   rw [if_pos hf] at h; cases h
  ·
   rw [if_neg hf] at h ⊢
   have hft : xcC o = true := by simpa using hf
   obtain ⟨hk, _⟩ := xeQ hft
   have key : ∀ (m' most' : Int), m' = m + dOf o → 0 ≤ m' → m' ≤ most' → m' ≤ 63 → most ≤ most' → (4 ≤ o.f0 → 0 < m) → (chkGo r (i + 1) m' most').1 = 0 →
     (∀ x ∈ o :: r, xcC x = true) ∧ (∀ j, j ≤ (o :: r).length → m + depthL ((o :: r).take j) ≤ (chkGo r (i + 1) m' most').2.2 ∧ m + depthL ((o :: r).take j) ≤ 63) ∧ (∀ j (hj : j < (o :: r).length), 4 ≤ (o :: r)[j].f0 → 0 < m + depthL ((o :: r).take j)) ∧ most ≤ (chkGo r (i + 1) m' most').2.2 := by
    intro m' most' e0 e1 e2 e3 e4 e5 e6
    obtain ⟨k1, k2, k3, k4⟩ := xhM r (i + 1) m' most' a e1 e2 e3 e6
    refine ⟨fun x hx => ?_, fun j hj => ?_, fun j hj h4 => ?_, by omega⟩
    ·
     rcases List.mem_cons.1 hx with rfl | hx
     ·
      exact hft
     ·
      exact k1 x hx
    ·
     cases j with
     | zero => simp only [List.take_zero, depthL, List.map_nil, List.sum_nil]; omega
     | succ j =>
      rw [depth_cons]
      have := k2 j (by simpa using hj)
      omega
    ·
     cases j with
     | zero => simp only [List.take_zero, depthL, List.map_nil, List.sum_nil]; have := e5 h4; omega
     | succ j =>
      rw [depth_cons]
      have := k3 j (by simpa using hj) h4
      omega
   by_cases ha : addsB o.f0 = true
   ·
    rw [if_pos ha] at h ⊢
    have hk2 : o.f0 = 2 ∨ o.f0 = 3 := by unfold addsB at ha; simpa using ha
    have hd : dOf o = 0 := by unfold dOf; rw [if_neg (by omega), if_neg (by omega)]
    exact key m most (by omega) h0 h1 h2 (Int.le_refl _) (fun h4 => by omega) h
   ·
    rw [if_neg ha] at h ⊢
    have hk2 : ¬ (o.f0 = 2 ∨ o.f0 = 3) := by unfold addsB at ha; simpa using ha
    by_cases h3 : o.f0 = 1
    ·
     rw [if_pos h3] at h ⊢
     have hd : dOf o = 1 := by unfold dOf; rw [if_pos h3]
     by_cases h4 : 63 < m + 1
     ·
      rw [if_pos h4] at h; cases h
     ·
      rw [if_neg h4] at h ⊢
      exact key (m + 1) (max most (m + 1)) (by omega) (by omega) (by omega) (by omega) (by omega) (fun h4 => by omega) h
    ·
     rw [if_neg h3] at h ⊢
     have hd : dOf o = -1 := by unfold dOf; rw [if_neg h3, if_pos (by omega)]
     by_cases h4 : m = 0
     ·
      rw [if_pos h4] at h; cases h
     ·
      rw [if_neg h4] at h ⊢
      exact key (m - 1) most (by omega) (by omega) (by omega) (by omega) (Int.le_refl _) (fun _ => by omega) h
theorem xfG {l : List S37} (h : (chk l).1 = 0) : Good fixF l ∧ ∀ i, i ≤ l.length → depthL (l.take i) ≤ (chk l).2.2 := by
 unfold chk at h ⊢
 by_cases h1 : 8192 < l.length
 ·
  rw [if_pos h1] at h; cases h
 ·
  rw [if_neg h1] at h ⊢
  obtain ⟨k1, k2, k3, k4⟩ := xhM l 0 0 0 0 (Int.le_refl _) (Int.le_refl _) (by omega) h
  refine ⟨⟨by omega, fun o ho => op_ok (k1 o ho), fun o ho h3 => fix_c (k1 o ho) h3, fun i hi h4 => ?_, fun i hi => ?_⟩, fun i hi => ?_⟩
  ·
   have := k3 i hi h4; omega
  ·
   have := (k2 i hi).2; omega
  ·
   have := (k2 i hi).1; omega
section
variable {fxs : S37 → List S48 × Int}
theorem xeE {s : St} (h : goes s = false) : ∀ n, runN fxs n s = (0, s)
  | 0 => rfl
  | n + 1 => by rw [runN, if_neg (by rw [h]; decide)]
theorem run_add (b : Nat) : ∀ (a : Nat) (s : St), (runN fxs (a + b) s).2 = (runN fxs b (runN fxs a s).2).2
 | 0, s => by rw [Nat.zero_add]; rfl
 | a + 1, s => by
  by_cases h : goes s = true
  ·
   rw [show a + 1 + b = (a + b) + 1 by omega, runN, if_pos h, runN, if_pos h]
   exact run_add b a (one fxs s)
  ·
   have h' := Bool.eq_false_iff.2 h
   rw [xeE h', xeE h']
   simp only
   rw [xeE h']
theorem run_full : ∀ (n : Nat) (s : St), (s.code.length : Int) - s.loc ≤ n → goes (runN fxs n s).2 = false
 | 0, s, h => by
  show goes s = false
  unfold goes
  rw [decide_eq_false (by simp at h; omega)]; rfl
 | n + 1, s, h => by
  by_cases hg : goes s = true
  ·
   rw [runN, if_pos hg]
   exact run_full n (one fxs s) (by show (s.code.length : Int) - (s.loc + 1) ≤ n; push_cast at h; omega)
  ·
   rw [xeE (Bool.eq_false_iff.2 hg)]; exact Bool.eq_false_iff.2 hg
theorem run_marks {M : Int} {l : List S37} (hg : Good fxs l) (hM : ∀ i, i ≤ l.length → depthL (l.take i) ≤ M) : ∀ (n : Nat) (s : St), s.code = l → Inv s → (s.marks.length : Int) ≤ M → ((runN fxs n s).2.marks.length : Int) ≤ M
 | 0, s, _, _, h => h
 | n + 1, s, hc, hi, h => by
  rw [runN]
  by_cases hgo : goes s = true
  ·
   rw [if_pos hgo]
   have h1 := one_inv (by rw [hc]; exact hg) hi hgo
   refine run_marks hg hM n (one fxs s) hc h1 ?_
   by_cases hf : (one fxs s).fault = 0
   ·
    have h2 := h1.md hf
    rw [h2]
    have h3 : (one fxs s).code = l := hc
    rw [h3]
    have h4 := h1.loc
    rw [h3] at h4
    exact hM _ (by omega)
   ·
    have hf' : ¬ (doOp (fxs (opAt s)) (opAt s) s.flows s.marks).2.2 = 0 := hf
    show (((doOp (fxs (opAt s)) (opAt s) s.flows s.marks).2.1.length : Nat) : Int) ≤ M
    unfold doOp at hf' ⊢
    by_cases he : (act (fxs (opAt s)) (opAt s) s.flows s.marks).2.2 = 0
    ·
     rw [if_pos he] at hf'; exact absurd he hf'
    ·
     rw [if_neg he]; exact h
  ·
   rw [if_neg hgo]; exact h
theorem ends_eq {s : St} (h : s.ended = false) (h2 : (ends s).ended = false) : ends s = s := by
 cases s
 unfold ends at h2 ⊢
 simp only at h h2 ⊢
 rw [h2, h]
structure Rd (fxs : S37 → List S48 × Int) (l : List S37) (M : Int) (T s : St) : Prop where
 code : s.code = l
 ended : s.ended = false
 inv : Inv s
 marks : (s.marks.length : Int) ≤ M
 tot : (runN fxs 8193 s).2 = T
theorem Rd.one {l : List S37} {M : Int} {T s : St} (hg : Good fxs l) (hM : ∀ i, i ≤ l.length → depthL (l.take i) ≤ M) (h : Rd fxs l M T s) (n : Int) (hn : 1 ≤ n) :
  (stepM fxs s n).2.1 = 0 ∧ (stepM fxs s n).2.2.code = l ∧ Inv (stepM fxs s n).2.2 ∧ (stepM fxs s n).2.2.flows.length ≤ 4096 ∧ ((stepM fxs s n).2.2.marks.length : Int) ≤ M ∧ s.loc + (stepM fxs s n).1.done = (stepM fxs s n).2.2.loc ∧ (stepM fxs s n).1.ended = (stepM fxs s n).2.2.ended ∧
  ((stepM fxs s n).1.ended = false → Rd fxs l M T (stepM fxs s n).2.2 ∧ s.loc + 1 ≤ (stepM fxs s n).2.2.loc ∧ (stepM fxs s n).2.2.loc < (l.length : Int)) ∧
  ((stepM fxs s n).1.ended = true → (stepM fxs s n).2.2 = ends T ∧ (stepM fxs s n).1.fault = T.fault ∧ (T.fault = 0 → T.loc = (l.length : Int)) ∧ T.loc ≤ (l.length : Int)) := by
 have hgs : Good fxs s.code := by rw [h.code]; exact hg
 obtain ⟨r1, r2, r3, r4, r5⟩ := run_inv n.toNat s hgs h.inv
 have rm := run_marks hg hM n.toNat s h.code h.inv h.marks
 have rt : (runN fxs 8193 (runN fxs n.toNat s).2).2 = T := by
  rw [← run_add, Nat.add_comm, run_add]
  have h1 : goes (runN fxs 8193 s).2 = false := run_full 8193 s (by have := hgs.len; have := h.inv.loc; omega)
  rw [xeE h1, h.tot]
 have hst : stepM fxs s n = (⟨(runN fxs n.toNat s).1, (ends (runN fxs n.toNat s).2).ended, (runN fxs n.toNat s).2.fault⟩, 0, ends (runN fxs n.toNat s).2) := by
  unfold stepM; rw [h.ended, if_neg (by decide), if_neg (by omega)]
 rw [hst]
 simp only
 have hloc : s.loc + ((runN fxs n.toNat s).1 : Int) = (runN fxs n.toNat s).2.loc := r5.symm
 have hone : goes s = true → 1 ≤ (runN fxs n.toNat s).1 := fun hgo => by
  obtain ⟨m, hm⟩ : ∃ m, n.toNat = m + 1 := ⟨n.toNat - 1, by omega⟩
  rw [hm, runN, if_pos hgo]; simp
 have hstop : goes s = false → runN fxs n.toNat s = (0, s) := fun hgo => xeE hgo _
 generalize runN fxs n.toNat s = r at *
 obtain ⟨k, s1⟩ := r
 simp only at *
 refine ⟨trivial, r2.trans h.code, ends_inv r1, r1.ok.len, rm, hloc, trivial, fun he => ?_, fun he => ?_⟩
 ·
  have h1 : s1.ended = false := r3.trans h.ended
  have he2 := ends_eq h1 he
  rw [he2]
  have hg1 : s1.loc < (s1.code.length : Int) ∧ s1.fault = 0 := by
   unfold ends at he
   simp only [Bool.or_eq_false_iff, decide_eq_false_iff_not] at he
   have := r1.loc
   exact ⟨by omega, Classical.byContradiction he.2⟩
  have hgo : goes s = true := by
   by_cases hc : goes s = true
   ·
    exact hc
   ·
    have h2 := hstop (Bool.eq_false_iff.2 hc)
    injection h2 with h2 h3
    subst h3
    exact absurd (xfC.2 hg1) hc
  refine ⟨⟨r2.trans h.code, h1, r1, rm, rt⟩, ?_, ?_⟩
  ·
   have := hone hgo; omega
  ·
   rw [← h.code, ← r2]; exact hg1.1
 ·
  have hng : goes s1 = false := by
   unfold ends at he
   simp only [Bool.or_eq_true, decide_eq_true_eq] at he
   unfold goes
   rcases he with he | he
   ·
    rw [decide_eq_false (by omega)]; rfl
   ·
    rw [decide_eq_false (show ¬ s1.fault = 0 from he), Bool.and_false]
  have hT : s1 = T := by rw [xeE hng] at rt; exact rt
  subst hT
  refine ⟨rfl, rfl, fun hf => ?_, ?_⟩
  ·
   have h2 : ¬ (s1.loc < (s1.code.length : Int)) := fun hl => by
    rw [xfC.2 ⟨hl, hf⟩] at hng; cases hng
   have := r1.loc
   rw [← h.code, ← r2]; omega
  ·
   rw [← h.code, ← r2]; exact r1.loc.2
end
inductive PT where
  | mk (o : S37) (ps : List PT)
def opM : S37 := ⟨1, 0, 0, 0, 0, 0, 0, 0, 0⟩
mutual
def codeP : PT → List S37
  | .mk o ps => (if addsB o.f0 = true then [] else opM :: codeL ps) ++ [o]
def codeL : List PT → List S37
  | [] => []
  | p :: r => codeP p ++ codeL r
end
section
variable (fxs : S37 → List S48 × Int)
def runE : List S37 → List S48 → List Int → Except Int (List S48 × List Int)
  | [], fl, ms => .ok (fl, ms)
  | o :: r, fl, ms => if (act (fxs o) o fl ms).2.2 = 0 then runE r (act (fxs o) o fl ms).1 (act (fxs o) o fl ms).2.1 else .error (act (fxs o) o fl ms).2.2
mutual
def evP : PT → List S48 → Except Int (List S48)
  | .mk o ps, fl => if addsB o.f0 = true then (if (act (fxs o) o fl []).2.2 = 0 then .ok (act (fxs o) o fl []).1 else .error (act (fxs o) o fl []).2.2)
    else (evL ps fl).bind fun f1 => if (act (fxs o) o f1 [(fl.length : Int)]).2.2 = 0 then .ok (act (fxs o) o f1 [(fl.length : Int)]).1 else .error (act (fxs o) o f1 [(fl.length : Int)]).2.2
def evL : List PT → List S48 → Except Int (List S48)
  | [], fl => .ok fl
  | p :: r, fl => (evP p fl).bind fun f1 => evL r f1
end
def tellE : Except Int (List S48 × List Int) → List S48 × Int
  | .ok p => (p.1, 0)
  | .error e => ([], e)
theorem runN_E : ∀ (n : Nat) (s : St), 0 ≤ s.loc → s.loc ≤ (s.code.length : Int) → s.fault = 0 → s.ended = false → (s.code.length : Int) - s.loc ≤ n →
  flowsT (ends (runN fxs n s).2) = tellE (runE fxs (s.code.drop s.loc.toNat) s.flows s.marks) ∧ (runE fxs (s.code.drop s.loc.toNat) s.flows s.marks ≠ .error 0)
 | n, s, h0, h1, hf, hen, hn => by
  by_cases hl : s.loc = (s.code.length : Int)
  ·
   have hng : goes s = false := by unfold goes; rw [decide_eq_false (by omega)]; rfl
   rw [xeE hng, List.drop_of_length_le (by omega)]
   refine ⟨?_, by intro h; cases h⟩
   unfold flowsT ends runE tellE
   simp only
   rw [decide_eq_true hl, hf]
   rfl
  ·
   have hgo : goes s = true := xfC.2 ⟨by omega, hf⟩
   have h3 : s.loc.toNat < s.code.length := by omega
   have hop : opAt s = s.code[s.loc.toNat] := opAt_eq h0 h3
   match n, hn with
   | 0, hn => omega
   | n + 1, hn =>
    rw [runN, if_pos hgo, List.drop_eq_getElem_cons h3, runE, ← hop]
    by_cases he : (act (fxs (opAt s)) (opAt s) s.flows s.marks).2.2 = 0
    ·
     rw [if_pos he]
     have hone : one fxs s = { s with flows := (act (fxs (opAt s)) (opAt s) s.flows s.marks).1, marks := (act (fxs (opAt s)) (opAt s) s.flows s.marks).2.1, fault := 0, loc := s.loc + 1 } := by
      unfold one doOp
      rw [if_pos he, he]
     have ih := runN_E n (one fxs s) (by rw [hone]; show (0 : Int) ≤ s.loc + 1; omega) (by rw [hone]; show s.loc + 1 ≤ (s.code.length : Int); omega) (by rw [hone]) (by rw [hone]; exact hen) (by rw [hone]; show (s.code.length : Int) - (s.loc + 1) ≤ n; push_cast at hn; omega)
     have e1 : (one fxs s).code.drop (one fxs s).loc.toNat = s.code.drop (s.loc.toNat + 1) := by
      rw [hone]; show s.code.drop (s.loc + 1).toNat = _
      rw [show (s.loc + 1).toNat = s.loc.toNat + 1 by omega]
     have e2 : (one fxs s).flows = (act (fxs (opAt s)) (opAt s) s.flows s.marks).1 := by rw [hone]
     have e3 : (one fxs s).marks = (act (fxs (opAt s)) (opAt s) s.flows s.marks).2.1 := by rw [hone]
     rw [e1, e2, e3] at ih
     exact ih
    ·
     rw [if_neg he]
     have hfo : (one fxs s).fault = (act (fxs (opAt s)) (opAt s) s.flows s.marks).2.2 := by
      unfold one doOp
      rw [if_neg he]
     have hng : goes (one fxs s) = false := by unfold goes; rw [hfo, decide_eq_false he, Bool.and_false]
     simp only
     rw [xeE hng]
     refine ⟨?_, by intro h; injection h with h; exact he h⟩
     unfold flowsT ends tellE
     simp only
     rw [hfo, decide_eq_true (show (act (fxs (opAt s)) (opAt s) s.flows s.marks).2.2 ≠ 0 from he), Bool.or_true, if_pos rfl, if_neg he]
theorem runT_E {l : List S37} (hl : l.length ≤ 8192) (a : Int) : runT fxs (0, a) l = tellE (runE fxs l [] []) := by
 have h := (runN_E fxs 8193 (st0 l) (Int.le_refl _) (by show (0 : Int) ≤ (l.length : Int); omega) rfl rfl (by show (l.length : Int) - 0 ≤ _; omega)).1
 rw [show (st0 l).code.drop (st0 l).loc.toNat = l from rfl] at h
 unfold runT
 rw [if_pos rfl]
 have h2 : stepM fxs (st0 l) 8193 = (⟨(runN fxs 8193 (st0 l)).1, (ends (runN fxs 8193 (st0 l)).2).ended, (runN fxs 8193 (st0 l)).2.fault⟩, 0, ends (runN fxs 8193 (st0 l)).2) := by
  unfold stepM
  rw [show (st0 l).ended = false from rfl, if_neg (by decide), if_neg (by omega)]
  rfl
 rw [h2]
 exact h
end
inductive WfP : PT → Prop where
  | add (o : S37) (h : o.f0 = 2 ∨ o.f0 = 3) : WfP (.mk o [])
  | take (o : S37) (ps : List PT) (h : 4 ≤ o.f0) (hp : ∀ p ∈ ps, WfP p) : WfP (.mk o ps)
theorem act_mark (fx : List S48 × Int) (fl : List S48) (ms : List Int) : act fx opM fl ms = (fl, ms ++ [(fl.length : Int)], 0) := by unfold act opM; rw [if_pos rfl]
theorem act_add {fx : List S48 × Int} {o : S37} {fl : List S48} {ms ms' : List Int} (h : o.f0 = 2 ∨ o.f0 = 3) : (act fx o fl ms).1 = (act fx o fl ms').1 ∧ (act fx o fl ms).2.2 = (act fx o fl ms').2.2 ∧ (act fx o fl ms).2.1 = ms := by
 have n1 : ¬ o.f0 = 1 := by omega
 have n4 : ¬ o.f0 = 4 := by omega
 unfold act
 rcases h with h | h
 ·
  simp only [n1, if_false, if_pos h]; split <;> exact ⟨rfl, rfl, rfl⟩
 ·
  have n2 : ¬ o.f0 = 2 := by omega
  simp only [n1, n2, if_false, if_pos h]; split <;> exact ⟨rfl, rfl, rfl⟩
theorem xgC (ms : List Int) (m : Int) : lastM (ms ++ [m]) = m.toNat := by unfold lastM; simp
theorem act_take {fx : List S48 × Int} {o : S37} {fl : List S48} (ms : List Int) (m : Int) (h : 4 ≤ o.f0) : (act fx o fl (ms ++ [m])).1 = (act fx o fl [m]).1 ∧ (act fx o fl (ms ++ [m])).2.2 = (act fx o fl [m]).2.2 ∧ (act fx o fl (ms ++ [m])).2.1 = ms := by
 have e1 : lastM (ms ++ [m]) = lastM [m] := by rw [xgC]; exact (xgC [] m).symm
 have e2 : (ms ++ [m]).dropLast = ms := List.dropLast_concat
 have n1 : ¬ o.f0 = 1 := by omega
 have n2 : ¬ o.f0 = 2 := by omega
 have n3 : ¬ o.f0 = 3 := by omega
 unfold act
 simp only [n1, n2, n3, if_false]
 rw [e1, e2]
 split
 ·
  exact ⟨rfl, rfl, rfl⟩
 ·
  split
  ·
   split <;> exact ⟨rfl, rfl, rfl⟩
  ·
   split
   ·
    exact ⟨rfl, rfl, rfl⟩
   ·
    exact ⟨rfl, rfl, rfl⟩
theorem xbV (k : Int) : addsB k = true ↔ k = 2 ∨ k = 3 := by unfold addsB; simp
mutual
theorem runP (fxs : S37 → List S48 × Int) : ∀ (p : PT) (rest : List S37) (fl : List S48) (ms : List Int), WfP p → runE fxs (codeP p ++ rest) fl ms = (evP fxs p fl).bind fun f1 => runE fxs rest f1 ms
 | .mk o ps, rest, fl, ms, hw => by
  rw [codeP, evP]
  cases hw with
  | add _ h =>
   have ha := (xbV o.f0).2 h
   rw [if_pos ha, if_pos ha, List.nil_append, List.singleton_append, runE]
   obtain ⟨h1, h2, h3⟩ := act_add (fx := fxs o) (fl := fl) (ms := ms) (ms' := []) h
   rw [h1, h2, h3]
   split <;> rfl
  | take _ _ h hp =>
   have ha : ¬ addsB o.f0 = true := fun h2 => by have := (xbV o.f0).1 h2; omega
   rw [if_neg ha, if_neg ha, List.cons_append, List.cons_append, runE, act_mark, if_pos rfl, List.append_assoc, runLs fxs ps _ _ _ hp]
   cases evL fxs ps fl with
   | error e => rfl
   | ok f1 =>
    show runE fxs ([o] ++ rest) f1 (ms ++ [(fl.length : Int)]) = _
    rw [List.singleton_append, runE]
    obtain ⟨h1, h2, h3⟩ := act_take (fx := fxs o) (fl := f1) ms (fl.length : Int) h
    rw [h1, h2, h3]
    show _ = Except.bind (if _ then _ else _) _
    split <;> rfl
theorem runLs (fxs : S37 → List S48 × Int) : ∀ (l : List PT) (rest : List S37) (fl : List S48) (ms : List Int), (∀ p ∈ l, WfP p) → runE fxs (codeL l ++ rest) fl ms = (evL fxs l fl).bind fun f1 => runE fxs rest f1 ms
 | [], rest, fl, ms, hw => by rw [codeL, evL]; rfl
 | p :: r, rest, fl, ms, hw => by
  rw [codeL, evL, List.append_assoc, runP fxs p _ _ _ (hw p (List.mem_cons_self ..))]
  cases evP fxs p fl with
  | error e => rfl
  | ok f1 => exact runLs fxs r rest f1 ms (fun q hq => hw q (List.mem_cons_of_mem _ hq))
end
theorem run_code (fxs : S37 → List S48 × Int) {l : List PT} (h : ∀ p ∈ l, WfP p) : tellE (runE fxs (codeL l) [] []) = (match evL fxs l [] with | .ok f => (f, 0) | .error e => ([], e)) := by
 have h1 := runLs fxs l [] [] [] h
 rw [List.append_nil] at h1
 rw [h1]
 cases evL fxs l [] <;> rfl
end Go.Proofs.YtkabcgmegljebaaGreatDoor.H
namespace Go.Proofs.YtkabcgmegljebaaGreatDoor.H
open Go.RowKit Go.Proofs.YtkabcgmegljebaaGreatDoorW.PrintWords Go.Proofs.YtkabcgmegljebaaGreatDoorW.PrintLast Go.Proofs.YtkabcgmegljebaaGreatDoorW.PrintMore
open Go.Proofs.YtkabcgmegljebaaGreatDoor.Q
open Ieee
theorem c_lp : double.leastPlace = -1074 := by decide
theorem c_fb : double.fractionBits = 52 := rfl
theorem log_rng {n : Nat} (h : n ≠ 0) : 2 ^ n.log2 ≤ n ∧ n < 2 ^ (n.log2 + 1) := ⟨(Nat.le_log2 h).1 (Nat.le_refl _), (Nat.log2_lt h).1 (Nat.lt_succ_self _)⟩
theorem log_eq {n k : Nat} (h0 : 2 ^ k ≤ n) (h1 : n < 2 ^ (k + 1)) : n.log2 = k := by
 have hn : n ≠ 0 := by have := Nat.two_pow_pos k; omega
 have a := (Nat.le_log2 hn).2 h0
 have b := (Nat.log2_lt hn).2 h1
 omega
theorem log_mul {n : Nat} (h : n ≠ 0) (k : Nat) : (2 ^ k * n).log2 = k + n.log2 := by
 obtain ⟨a, b⟩ := log_rng h
 refine log_eq ?_ ?_
 ·
  rw [Nat.pow_add]; exact Nat.mul_le_mul_left _ a
 ·
  rw [Nat.add_assoc, Nat.pow_add]; exact Nat.mul_lt_mul_of_pos_left b (Nat.two_pow_pos k)
theorem cut52 (neg : Bool) {n : Nat} (h : n ≠ 0) : Toward.even.cut neg (2 ^ 52 * n) 52 = n := by
 unfold Toward.cut
 have hm : min 52 ((2 ^ 52 * n).log2 + 2) = 52 := by rw [log_mul h]; omega
 rw [hm]
 have e : (1 : Nat) <<< 52 = 2 ^ 52 := by decide
 rw [e]
 simp only [Nat.mul_mod_right, Nat.mul_div_cancel_left n (Nat.two_pow_pos 52)]
 simp
theorem near52 (neg : Bool) {n : Nat} {i : Int} (h : n ≠ 0) (hi : -1074 ≤ i) (hl : (n.log2 : Int) + i ≤ i + 52) (h2 : i = -1074 ∨ n.log2 = 52) (hr : (i + 1074).toNat * 4503599627370496 + n ≤ 9218868437227405312) :
  double.nearest neg (2 ^ 52 * n) (i - 52) = double.word neg ((i + 1074).toNat * 4503599627370496 + n) := by
 unfold Format.nearest
 have hne : ¬ 2 ^ 52 * n = 0 := by have := Nat.two_pow_pos 52; exact Nat.mul_ne_zero (by omega) h
 rw [if_neg hne]
 dsimp only
 rw [log_mul h, c_fb, c_lp, c_bin, c_inf]
 have hlast : max (i - 52 + ((52 + n.log2 : Nat) : Int) - ((52 : Nat) : Int)) (-1074) = i := by push_cast; omega
 rw [hlast, show (i - 52 - i).toNat = 0 by omega, show (i - (i - 52)).toNat = 52 by omega, Nat.shiftLeft_zero, cut52 neg h, show (i - -1074) = i + 1074 by omega, Nat.min_eq_left hr]
theorem mul_one {x : Nat} (h : numB x = true) (hw : x < 18446744073709551616) : mulN 4607182418800017408 x = x := by
 have h1 : x % 9223372036854775808 < 9218868437227405312 := of_decide_eq_true h
 have ho : double.read 4607182418800017408 = .number false 4503599627370496 (-52) := by decide +kernel
 obtain ⟨s, hs⟩ : ∃ s : Bool, s = (x / 9223372036854775808 % 2 == 1) := ⟨_, rfl⟩
 have hwd : double.word s (x % 9223372036854775808) = x := by
  unfold Format.word; rw [c_sw]
  cases s with
  | true =>
   have h2 : x / 9223372036854775808 % 2 = 1 := beq_iff_eq.1 hs.symm
   simp only [if_true]; omega
  | false =>
   have h2 : ¬ x / 9223372036854775808 % 2 = 1 := beq_eq_false_iff_ne.1 hs.symm
   simp only [Bool.false_eq_true, if_false]; omega
 have key : ∀ (m : Nat) (i : Int), double.read x = .number s m i → double.nearest s (2 ^ 52 * m) (i - 52) = x → mulN 4607182418800017408 x = x := fun m i hr hn => by
  have e : floatBits .mul .f64 4607182418800017408 x = some x := by
   show ((double.read 4607182418800017408).product (double.read x)).map double.write = _
   rw [ho, hr]
   show some (double.nearest (false ^^ s) (4503599627370496 * m) (-52 + i)) = some x
   rw [Bool.false_xor, show (-52 + i) = i - 52 by omega]
   exact congrArg some hn
  unfold mulN
  rw [e]; rfl
 generalize hrr : x % 9223372036854775808 = r at h1 hwd
 have hread : double.read x = if r < 4503599627370496 then .number s r (-1074) else .number s (4503599627370496 + r % 4503599627370496) (-1074 + ((r / 4503599627370496 - 1 : Nat) : Int)) := by
  unfold Format.read
  rw [c_sw, c_bin, c_inf, c_lp]
  simp only [hrr]
  rw [← hs]
  split <;> first | rfl | rw [if_pos h1]
 by_cases hb : r < 4503599627370496
 ·
  rw [if_pos hb] at hread
  refine key _ _ hread ?_
  by_cases h0 : r = 0
  ·
   subst h0
   unfold Format.nearest
   rw [Nat.mul_zero, if_pos rfl]
   exact hwd
  ·
   have hlg := log_rng h0
   have h52 : r.log2 < 52 := (Nat.log2_lt h0).2 (by omega)
   rw [near52 s h0 (by omega) (by omega) (Or.inl rfl) (by omega)]
   rw [show ((-1074 : Int) + 1074).toNat * 4503599627370496 + r = r by omega]
   exact hwd
 ·
  rw [if_neg hb] at hread
  refine key _ _ hread ?_
  have hm0 : 4503599627370496 + r % 4503599627370496 ≠ 0 := by omega
  have hlg : (4503599627370496 + r % 4503599627370496).log2 = 52 := log_eq (by omega) (by omega)
  rw [near52 s hm0 (by omega) (by rw [hlg]; omega) (Or.inr hlg) (by omega)]
  rw [show ((-1074 : Int) + ((r / 4503599627370496 - 1 : Nat) : Int) + 1074).toNat * 4503599627370496 + (4503599627370496 + r % 4503599627370496) = r by omega]
  exact hwd
def oneB (x : Nat) : Bool := FloatKind.f64.format.order x 4607182418800017408 == some Ordering.eq
theorem cmp_eq_iff {x y : Int} (h : compare x y = .eq) : x = y := by
 have h : compareOfLessAndEq x y = .eq := h
 unfold compareOfLessAndEq at h
 by_cases h1 : x < y
 ·
  rw [if_pos h1] at h; cases h
 ·
  rw [if_neg h1] at h
  by_cases h2 : x = y
  ·
   exact h2
  ·
   rw [if_neg h2] at h; cases h
theorem one_only {x : Nat} (hn : numB x = true) (hw : x < 18446744073709551616) (h : oneB x = true) : x = 4607182418800017408 := by
 have h1 : x % 9223372036854775808 < 9218868437227405312 := of_decide_eq_true hn
 have ho : double.read 4607182418800017408 = .number false 4503599627370496 (-52) := by decide +kernel
 have hord : (double.read x).order (double.read 4607182418800017408) = some .eq := by
  have h2 : double.order x 4607182418800017408 = some .eq := by unfold oneB at h; exact beq_iff_eq.1 h
  exact h2
 rw [ho] at hord
 obtain ⟨s, hs⟩ : ∃ s : Bool, s = (x / 9223372036854775808 % 2 == 1) := ⟨_, rfl⟩
 generalize hrr : x % 9223372036854775808 = r at h1
 have hread : double.read x = if r < 4503599627370496 then .number s r (-1074) else .number s (4503599627370496 + r % 4503599627370496) (-1074 + ((r / 4503599627370496 - 1 : Nat) : Int)) := by
  unfold Format.read
  rw [c_sw, c_bin, c_inf, c_lp]
  simp only [hrr]
  rw [← hs]
  split <;> first | rfl | rw [if_pos h1]
 have key : ∀ (m : Nat) (i : Int), (.number s m i : Datum).order (.number false 4503599627370496 (-52)) = some .eq → m < 9007199254740992 → (i ≤ -52 ∨ 4503599627370496 ≤ m) → s = false ∧ m = 4503599627370496 ∧ i = -52 := fun m i h2 hm hi => by
  unfold Datum.order at h2
  simp only [Option.some.injEq] at h2
  have h3 := cmp_eq_iff h2
  unfold signed at h3
  rw [Nat.shiftLeft_eq, Nat.shiftLeft_eq] at h3
  have hp1 := Nat.two_pow_pos (-52 - min i (-52)).toNat
  have hs2 : s = false := by
   cases s with
   | false => rfl
   | true =>
    simp only [if_true, Bool.false_eq_true, if_false] at h3
    have h4 : 0 ≤ ((m * 2 ^ (i - min i (-52)).toNat : Nat) : Int) := by omega
    have h5 : 0 < ((4503599627370496 * 2 ^ (-52 - min i (-52)).toNat : Nat) : Int) := by
     have := Nat.mul_pos (show 0 < 4503599627370496 by decide) hp1
     omega
    omega
  subst hs2
  simp only [Bool.false_eq_true, if_false] at h3
  have h4 : m * 2 ^ (i - min i (-52)).toNat = 4503599627370496 * 2 ^ (-52 - min i (-52)).toNat := by exact_mod_cast h3
  refine ⟨rfl, ?_⟩
  by_cases hle : i ≤ -52
  ·
   rw [Int.min_eq_left hle, show (i - i).toNat = 0 by omega, Nat.pow_zero, Nat.mul_one] at h4
   rcases Nat.eq_zero_or_pos (-52 - i).toNat with h5 | h5
   ·
    rw [h5] at h4; omega
   ·
    obtain ⟨d, hd⟩ : ∃ d, (-52 - i).toNat = d + 1 := ⟨(-52 - i).toNat - 1, by omega⟩
    rw [hd, Nat.pow_succ] at h4
    have := Nat.two_pow_pos d
    omega
  ·
   exfalso
   have hm2 : 4503599627370496 ≤ m := hi.resolve_left hle
   rw [Int.min_eq_right (by omega), show ((-52 : Int) - -52).toNat = 0 by omega, Nat.pow_zero, Nat.mul_one] at h4
   obtain ⟨d, hd⟩ : ∃ d, (i - -52).toNat = d + 1 := ⟨(i - -52).toNat - 1, by omega⟩
   rw [hd, Nat.pow_succ] at h4
   have h6 := Nat.two_pow_pos d
   have h7 : m * 2 ≤ m * (2 ^ d * 2) := Nat.mul_le_mul_left _ (by omega)
   omega
 by_cases hb : r < 4503599627370496
 ·
  rw [if_pos hb] at hread
  rw [hread] at hord
  obtain ⟨_, h3, _⟩ := key _ _ hord (by omega) (Or.inl (by omega))
  omega
 ·
  rw [if_neg hb] at hread
  rw [hread] at hord
  obtain ⟨h2, h3, h4⟩ := key _ _ hord (by omega) (Or.inr (by omega))
  rw [h2] at hs
  have h5 : ¬ x / 9223372036854775808 % 2 = 1 := beq_eq_false_iff_ne.1 hs.symm
  omega
end Go.Proofs.YtkabcgmegljebaaGreatDoor.H
