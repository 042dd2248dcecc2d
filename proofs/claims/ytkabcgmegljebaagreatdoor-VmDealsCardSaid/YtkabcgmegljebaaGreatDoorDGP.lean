/- Contracts and facts of functions of the program, joined in one text. -/
import Derived.Test.YtkabcgmegljebaaGreatDoorDGO
import Derived.Test.YtkabcgmegljebaaGreatDoorDGN
import Derived.Test.YtkabcgmegljebaaGreatDoorDGA
set_option maxHeartbeats 8000000
set_option maxRecDepth 100000
set_option linter.unusedVariables false
set_option linter.unusedSimpArgs false
namespace Go.Proofs.YtkabcgmegljebaaGreatDoor.H
open Go.RowKit Go.Proofs.YtkabcgmegljebaaGreatDoorW.PrintWords Go.Proofs.YtkabcgmegljebaaGreatDoorW.PrintLast Go.Proofs.YtkabcgmegljebaaGreatDoorW.PrintMore
open Go.Proofs.YtkabcgmegljebaaGreatDoor.Q
theorem codeL_take {ps : List PT} {i : Nat} (h : i < ps.length) : codeL (ps.take (i + 1)) = codeL (ps.take i) ++ codeP ps[i] := by
  rw [List.take_succ_eq_append_getElem h, xeJ, codeL, codeL, List.append_nil]
theorem Sl.xeF {α : Type} {d : Kd α} {e : TypeId} {w : World} {base : Nat} {F : Nat → Prop} {A : Option Addr} {c : Nat} {xs : List α} (h : Sl d e w base F A c xs) : ∀ k, own A k → base ≤ k := fun k hk => by
 obtain ⟨a, rfl, rfl⟩ := hk
 rcases h.row with ⟨h1, _⟩ | ⟨b, off, cur, inner, h1, h2, h3, _⟩
 ·
  cases h1
 ·
  injection h1 with h1; subst h1; exact h3
def LaC (n : Nat) : Prop := ∀ (ps : List PT), (codeL ps).length < n → ∀ (w0 : World) (base : Nat) (F : Nat → Prop) (A : Option Addr) (c : Nat) (hs : List Nat) (hS : Sl kp 124 w0 base F A c hs) (hP : PRL w0 base F ps hs) (W : World) (Ao : Option Addr) (co : Nat) (out : List S37) (hB : Below w0.heap.size w0 W) (hO : Sl k37 37 W w0.heap.size (fun _ => True) Ao co out) (hol : out.length + (codeL ps).length ≤ 8192), Calls Tryz.prog 42 #[.slice Ao out.length co, .slice A ps.length c] W fun e w' => ∃ A' c', e = .returned (.slice A' (out ++ codeL ps).length c') ∧ Sl k37 37 w' w0.heap.size (fun _ => True) A' c' (out ++ codeL ps) ∧ Below w0.heap.size w0 w'
theorem laid_step (n : Nat) (ih : LaC n) (ps : List PT) (hn : (codeL ps).length < n + 1) (w0 : World) (base : Nat) (F : Nat → Prop) (A : Option Addr) (c : Nat) (hs : List Nat) (hS : Sl kp 124 w0 base F A c hs) (hP : PRL w0 base F ps hs) (W : World) (Ao : Option Addr) (co : Nat) (out : List S37) (hB : Below w0.heap.size w0 W) (hO : Sl k37 37 W w0.heap.size (fun _ => True) Ao co out) (hol : out.length + (codeL ps).length ≤ 8192) : Calls Tryz.prog 42 #[.slice Ao out.length co, .slice A ps.length c] W fun e w' => ∃ A' c', e = .returned (.slice A' (out ++ codeL ps).length c') ∧ Sl k37 37 w' w0.heap.size (fun _ => True) A' c' (out ++ codeL ps) ∧ Below w0.heap.size w0 w' := by
 have hlen := hP.len;have hC := hS.C
 rw [hlen] at hC
 have HLEN := Aside0.mk hlen;have HC := Aside0.mk hC;have HP := Aside0.mk hP;have HIH := Aside0.mk ih;have HN := Aside0.mk hn;have HOL := Aside0.mk hol
 have HPL : Aside0 (ps.length ≤ 8192) := ⟨by have := xeM ps; omega⟩
 have HO0 := Aside0.mk hO;have HB0 := Aside0.mk hB;clear ih hn hS hP hlen hC hB hO hol
 go_enter Tryz.func42, Tryz.ntmps42
 go_wp2_with fail
 go_loopg [0, 9] (ps.length) (fun kq v0 v9 w' => ∃ (i : Nat) (cur : List S37) (Au : Option Addr) (cu : Nat), kq + i = ps.length ∧ i ≤ ps.length ∧ v9 = .int .i64 i ∧ v0 = .slice Au cur.length cu ∧ Aside0 (cur = out ++ codeL (ps.take i)) ∧ Aside0 (Sl k37 37 w' w0.heap.size (fun _ => True) Au cu cur) ∧ Aside0 (Below w0.heap.size w0 w'))
 case atStart => exact ⟨0, out, Ao, co, by omega, by omega, rfl, rfl, ⟨by rw [List.take_zero, codeL, List.append_nil]⟩, ⟨HO0.out.below (by repeat (first | exact Below.refl _ _ | apply xaJ | apply xaM))⟩, ⟨by repeat (first | exact HB0.out | apply xaJ | apply xaM)⟩⟩
 case round =>
  obtain ⟨i, cur, Au, cu, hk, hi, rfl, rfl, HCU, HO, HBW⟩ := hrel
  by_cases hlt : i < ps.length
  ·
   have hilt : i < hs.length := by rw [HLEN.out]; exact hlt
   obtain ⟨ad, cc, hA, hcl, hK, hc⟩ := Kd.C_get (Kd.xbP HC.out HBW.out) 0 (i : Int) (by omega) (by omega)
   subst hA
   have hcell : wr.cell? (ad.add i) = some (encP hs[i]) := by
    have h1 : cc = [encP (hs.getD (i : Int).toNat 0)] := hK
    have h2 := hc 0 (encP (hs.getD (i : Int).toNat 0)) (by rw [h1]; rfl)
    rw [Int.toNat_natCast] at h2
    rw [List.getD_eq_getElem?_getD, List.getElem?_eq_getElem hilt, show i * kp.sz + 0 = i from (by show i * 1 + 0 = i; omega)] at h2
    exact h2
   have hpr := HP.out.get i hlt hilt
   have HT := Aside0.mk (codeL_take hlt)
   have HCG := Aside0.mk (code_get hlt)
   have HCT : Aside0 ((codeL (ps.take (i + 1))).length ≤ (codeL ps).length) := ⟨xiH ps (i + 1)⟩
   generalize hs[i] = g at hcell hpr
   generalize ps[i] = p at hpr HT HCG
   obtain ⟨o, qs⟩ := p
   rw [PR] at hpr
   obtain ⟨hFg, A1, c1, hq, hblk, hql, hS1, hP1⟩ := hpr
   unfold cellsP at hblk
   have BP0 := Aside0.mk hblk
   have BP := Aside0.mk (xaK hblk HBW.out)
   have HS1 := Aside0.mk hS1;have HP1 := Aside0.mk hP1
   have hmx : (i : Int) + 1 ≤ 9223372036854775807 := by have := HPL.out; omega
   clear hcl hK hc hblk hql hS1 hP1 hFg
   unfold encP at hcell
   obtain ⟨pc0, pc1, pc2, pc3, pc4, pc5, pc6, pc7, pc8, pc9, pz0, pz1, pz2, pz3, pz4, pz5, pz6, pz7, pz8, pz9⟩ := blk10 BP
   by_cases ha : addsB o.f0 = true
   ·
    have HADD := Aside0.mk ha
    have HCU1 : Aside0 (cur ++ [o] = out ++ codeL (ps.take (i + 1))) := ⟨by rw [HT.out, codeP, if_pos ha, HCU.out, List.append_assoc]; rfl⟩
    have HCL : Aside0 (cur.length + 1 ≤ 8192) := ⟨by have h1 := congrArg List.length HCU1.out; simp only [List.length_append, List.length_cons, List.length_nil] at h1; have := HCT.out; have := HOL.out; omega⟩
    go_wp2_with (first | (go_at_call 67; (with_reducible refine (adds_c _ _).mono ?_); rintro e w' ⟨rfl, hw_⟩; obtain rfl := hw_.symm; rw [HADD.out]) | ((with_reducible refine xaR (b := .append) (xs := #[.tmp 29, .tmp 34]) rfl ?_); go_loud (refine Sl.xcZ rfl (.tmp 29) (.tmp 34) 22 (.agg #[.int .i64 0, .float .f64 0, .float .f64 0, .int .i64 0, .int .i64 0, .int .i64 0, .int .i64 0, .int .i64 0, .int .i64 0]) 72 rfl Tryz.underlying22 info37 rfl (by decide) (by omega) (ys := [o]) rfl rfl (HO.out.below (xaC (Below.refl _ _) _)) (lit_C (k37_mk _ o)) (xaC HBW.out _).size (by have := HCL.out; omega) ?_; intro A5 c5 w6 ho hf _; have HO1 := Aside0.mk (ho.mono (G := fun _ => True) (fun _ _ _ => trivial)); have HBX := Aside0.mk ((xaC HBW.out _).trans (hf.xcW (xaC HBW.out _).size (fun k hk => HO.out.xeF k hk))); clear ho hf)))
    go_roundg (gk - 1)
    case measure => omega
    case rel => exact ⟨i + 1, cur ++ [o], A5, c5, by omega, by omega, by go_num, by rw [List.length_append]; rfl, HCU1, HO1, HBX⟩
   ·
    have haf : addsB o.f0 = false := Bool.eq_false_iff.2 ha
    have HADD := Aside0.mk haf
    obtain ⟨cur2, hcur2⟩ : ∃ cur2 : List S37, cur2 = cur ++ [opM] ++ codeL qs := ⟨_, rfl⟩
    have hlc : cur2.length = cur.length + 1 + (codeL qs).length := by rw [hcur2, List.length_append, List.length_append]; rfl
    have HCU1 : Aside0 (cur2 ++ [o] = out ++ codeL (ps.take (i + 1))) := ⟨by rw [HT.out, codeP, if_neg ha, hcur2, HCU.out]; simp⟩
    have HCL : Aside0 (cur2.length + 1 ≤ 8192) := ⟨by have h1 := congrArg List.length HCU1.out; simp only [List.length_append, List.length_cons, List.length_nil] at h1; have := HCT.out; have := HOL.out; omega⟩
    have HCL1 : Aside0 (cur.length + 1 ≤ 8192) := ⟨by have := HCL.out; omega⟩
    have hrec : ∀ (W : World) (Ao : Option Addr) (co : Nat), Below w0.heap.size w0 W → Sl k37 37 W w0.heap.size (fun _ => True) Ao co (cur ++ [opM]) → Calls Tryz.prog 42 #[.slice Ao (cur.length + 1) co, .slice A1 qs.length c1] W fun e w' => ∃ A' c', e = .returned (.slice A' cur2.length c') ∧ Sl k37 37 w' w0.heap.size (fun _ => True) A' c' cur2 ∧ Below w0.heap.size w0 w' := fun W Ao co hb ho => by
     have h1 := HIH.out qs (by have h1 := HCG.out; rw [codeP, if_neg ha] at h1; simp only [List.length_append, List.length_cons, List.length_nil] at h1; have := HN.out; omega) w0 base F A1 c1 hq HS1.out HP1.out W Ao co (cur ++ [opM]) hb ho (by rw [List.length_append, List.length_singleton]; have := HCL.out; omega)
     rw [← hcur2, List.length_append] at h1
     exact h1
    have HREC := Aside0.mk hrec;clear hrec hcur2 hlc ha haf
    go_upto_region 5 with (go_at_call 67; (with_reducible refine (adds_c _ _).mono ?_); rintro e w' ⟨rfl, hw_⟩; obtain rfl := hw_.symm; rw [HADD.out])
    clear pc0 pz0 pc1 pz1 pc2 pz2 pc3 pz3 pc4 pz4 pc5 pz5 pc6 pz6 pc7 pz7 pc8 pz8 pc9 pz9
    have hS : ∀ w', Below w0.heap.size w0 w' → (fun w' : World => w'.cell? ⟨g, 9, none⟩ = some (.slice A1 qs.length c1)) w' := fun w' hb => (xaA (xaK BP0.out hb) 9).trans rfl
    refine start_ (n := 10) (S := fun w' : World => w'.cell? ⟨g, 9, none⟩ = some (.slice A1 qs.length c1)) (ds := []) #[false, false, false, false, false, false, false, false, false, false] (by kernel_rfl) rfl rfl (hS _ (by repeat (first | exact HBW.out | apply xaJ | apply xaM))) (fun hHeld => ?_)
    replace HO := Aside0.mk (HO.out.below (xaM (Below.refl wr.heap.size wr)))
    replace HBW := Aside0.mk (xaM HBW.out)
    generalize wr.drew = w2 at HO HBW hHeld ⊢
    refine rP 0 ?_
    refine rP 1 ?_
    refine rP 4 ?_
    refine rP 5 ?_
    refine rP 6 ?_
    refine rT 7 ?_
    refine rO 2 (fun K hK => ?_)
    refine value_ (w1 := ?_) (v := ?_) (by rfl) rfl ?_ ?_
    rotate_left 2
    ·
     go_simp
     constructor
     ·
      rfl
     ·
      rfl
    refine hK.out _ _ (hS _ (xaC HBW.out _)) (fun hHeld => ?_)
    clear hK K hHeld
    refine rN ?_
    refine rO 3 (fun K hK => ?_)
    refine Sl.xfS (by rfl) (.tmp 20) (.tmp 22) 22 (.agg #[.int .i64 0, .float .f64 0, .float .f64 0, .int .i64 0, .int .i64 0, .int .i64 0, .int .i64 0, .int .i64 0, .int .i64 0]) 72 rfl Tryz.underlying22 info37 rfl (by decide) (by omega) (ys := [opM]) rfl rfl (HO.out.below (xaC (Below.refl _ _) _)) (lit_C (k37_mk w2 opM)) (xaC HBW.out _).size (by have := HCL1.out; omega) ?_
    intro A3 c3 w3 ho hf _
    have hb3 : Below w0.heap.size w0 w3 := (xaC HBW.out _).trans (hf.xcW (xaC HBW.out _).size (fun k hk => HO.out.xeF k hk))
    have ho3 := ho.mono (G := fun _ => True) (fun _ _ _ => trivial)
    have HB3 := Aside0.mk hb3;have HO3 := Aside0.mk ho3;clear ho hf hb3 ho3
    refine hK.out _ _ (hS _ HB3.out) (fun hHeld => ?_)
    clear hK K hHeld
    refine rN ?_
    refine rO 8 (fun K hK => ?_)
    refine goes_ Tryz.func42 (by kernel_rfl) rfl #[.slice A3 (cur.length + 1) c3, .slice A1 qs.length c1] (by rfl) rfl rfl (by (try simp only [List.map_toArray, List.map_cons, List.map_nil]); first | done | rfl) ?_
    refine (HREC.out _ _ _ HB3.out HO3.out).mono ?_
    rintro e w5 ⟨A4, c4, rfl, hs4, hb4⟩
    refine ⟨_, rfl, ?_⟩
    refine hK.out _ _ (hS _ hb4) (fun hHeld => ?_)
    clear hK K hHeld
    refine rN ?_
    refine rP 9 ?_
    refine rD ?_
    replace HO := Aside0.mk hs4;replace HBW := Aside0.mk hb4
    replace BP := Aside0.mk (xaK BP0.out hb4)
    clear hs4 hb4 HREC HB3 HO3 hS
    obtain ⟨pc0, pc1, pc2, pc3, pc4, pc5, pc6, pc7, pc8, pc9, pz0, pz1, pz2, pz3, pz4, pz5, pz6, pz7, pz8, pz9⟩ := blk10 BP
    go_wp2_with ((with_reducible refine xaR (b := .append) (xs := #[.tmp 29, .tmp 34]) rfl ?_); go_loud (refine Sl.xcZ rfl (.tmp 29) (.tmp 34) 22 (.agg #[.int .i64 0, .float .f64 0, .float .f64 0, .int .i64 0, .int .i64 0, .int .i64 0, .int .i64 0, .int .i64 0, .int .i64 0]) 72 rfl Tryz.underlying22 info37 rfl (by decide) (by omega) (ys := [o]) rfl rfl (HO.out.below (xaC (Below.refl _ _) _)) (lit_C (k37_mk _ o)) (xaC HBW.out _).size (by have := HCL.out; omega) ?_; intro A5 c5 w6 ho hf _; have HO1 := Aside0.mk (ho.mono (G := fun _ => True) (fun _ _ _ => trivial)); have HBX := Aside0.mk ((xaC HBW.out _).trans (hf.xcW (xaC HBW.out _).size (fun k hk => HO.out.xeF k hk))); clear ho hf))
    go_roundg (gk - 1)
    case measure => omega
    case rel => exact ⟨i + 1, cur2 ++ [o], A5, c5, by omega, by omega, by go_num, by rw [List.length_append]; rfl, HCU1, HO1, HBX⟩
  ·
   go_wp2_with fail
   go_ret
   have e : ps.take i = ps := List.take_of_length_le (by omega)
   have h1 := HCU.out
   rw [e] at h1
   exact ⟨Au, cu, by rw [← h1]; rfl, by rw [← h1]; exact HO.out, HBW.out⟩
theorem laC : ∀ n, LaC n
  | 0 => fun ps h => absurd h (Nat.not_lt_zero _)
  | n + 1 => fun ps h w0 base F A c hs hS hP W Ao co out hB hO hol => laid_step n (laC n) ps h w0 base F A c hs hS hP W Ao co out hB hO hol
def op0 : S37 := ⟨0, 0, 0, 0, 0, 0, 0, 0, 0⟩
def Lev (w : World) (base : Nat) (tau : Nat → Nat × Nat) (j g : Nat) (ts : List PT) : Prop :=
  tau g = (j + 1, 0) ∧ base ≤ g ∧ ∃ A c hs, w.heap[g]? = some (.cells (cellsP op0 A ts.length c) 126 (0, 0)) ∧ hs.length = ts.length ∧ Sl kp 124 w base (fun k => tau k = (j + 1, 1)) A c hs ∧ PRL w base (fun k => tau k = (j + 1, 2)) ts hs
def Levs (w : World) (base : Nat) (tau : Nat → Nat × Nat) : List (List PT) → List Nat → Prop
 | [], [] => True
 | t :: r, g :: gr => Lev w base tau r.length g t ∧ Levs w base tau r gr
 | [], _ :: _ => False
 | _ :: _, [] => False
structure PS (w : World) (base : Nat) (tau : Nat → Nat × Nat) (A : Option Addr) (c : Nat) (st : List (List PT)) (gs : List Nat) : Prop where
 z : ∀ k, w.heap.size ≤ k → tau k = (0, 0)
 s : Sl kp 124 w base (fun k => tau k = (0, 1)) A c gs.reverse
 l : Levs w base tau st gs
section
variable {w w1 w2 : World} {base n0 : Nat} {tau tau' : Nat → Nat × Nat}
theorem Lev.fr {G : Nat → Prop} {j g : Nat} {ts : List PT} (h : Lev w base tau j g ts) (hf : Fr G w w1) (hd : ∀ k, G k → (tau k).1 ≠ j + 1) : Lev w1 base tau j g ts := by
  obtain ⟨h0, h00, A, c, hs, h1, h2, h3, h4⟩ := h
  exact ⟨h0, h00, A, c, hs, hf.blk h1 (fun hk => hd g hk (by rw [h0])), h2, h3.fr hf (fun k h5 hk => hd k hk (by rw [h5])), h4.fr hf (fun k h5 hk => hd k hk (by rw [h5]))⟩
theorem Levs.fr {G : Nat → Prop} (hf : Fr G w w1) : ∀ {st : List (List PT)} {gs : List Nat}, (∀ k, G k → (tau k).1 = 0 ∨ st.length < (tau k).1) → Levs w base tau st gs → Levs w1 base tau st gs
 | [], [], _, h => h
 | t :: r, g :: gr, hd, h => by
  rw [List.length_cons] at hd
  exact ⟨h.1.fr hf (fun k hk => by have := hd k hk; omega), Levs.fr hf (fun k hk => by have := hd k hk; omega) h.2⟩
 | [], _ :: _, _, h => h.elim
 | _ :: _, [], _, h => h.elim
theorem Levs.below {st : List (List PT)} {gs : List Nat} (h : Levs w base tau st gs) (hb : Below w.heap.size w w1) : Levs w1 base tau st gs :=
  Levs.fr ((Fr.refl (fun _ => False) w).below hb) (fun _ h => h.elim) h
theorem Lev.mono {j g : Nat} {ts : List PT} (h : Lev w base tau j g ts) (hm : ∀ k, k < w.heap.size → (tau k).1 = j + 1 → tau' k = tau k) : Lev w base tau' j g ts := by
  obtain ⟨h0, h00, A, c, hs, h1, h2, h3, h4⟩ := h
  exact ⟨(hm g (blk_lt h1) (by rw [h0])).trans h0, h00, A, c, hs, h1, h2, h3.mono (fun k h5 h6 => (hm k h6 (by rw [h5])).trans h5), h4.mono (fun k h5 h6 => (hm k h6 (by rw [h5])).trans h5)⟩
theorem Levs.mono : ∀ {st : List (List PT)} {gs : List Nat}, (∀ k, k < w.heap.size → 1 ≤ (tau k).1 → (tau k).1 ≤ st.length → tau' k = tau k) → Levs w base tau st gs → Levs w base tau' st gs
 | [], [], _, h => h
 | t :: r, g :: gr, hm, h => by
  rw [List.length_cons] at hm
  exact ⟨h.1.mono (fun k h1 h2 => hm k h1 (by omega) (by omega)), Levs.mono (fun k h1 h2 h3 => hm k h1 h2 (by omega)) h.2⟩
 | [], _ :: _, _, h => h.elim
 | _ :: _, [], _, h => h.elim
theorem Levs.len : ∀ {st : List (List PT)} {gs : List Nat}, Levs w base tau st gs → gs.length = st.length
 | [], [], _ => rfl
 | t :: r, g :: gr, h => by rw [List.length_cons, List.length_cons, Levs.len h.2]
 | [], _ :: _, h => h.elim
 | _ :: _, [], h => h.elim
theorem PS.push {A A1 : Option Addr} {c1 gn : Nat} {st : List (List PT)} {gs : List Nat} (z : ∀ k, n0 ≤ k → tau k = (0, 0)) (hn : n0 ≤ gn) (hgn : gn < w1.heap.size) (hbase : base ≤ n0)
  (hl : Levs w1 base tau st gs) (hb : w1.heap[gn]? = some (.cells (cellsP op0 none 0 0) 126 (0, 0))) (hf : Fr (own A) w1 w2) (hA : ∀ k, own A k → tau k = (0, 1)) (ho : Sl kp 124 w2 base (Gr (fun k => tau k = (0, 1)) w1.heap.size w2.heap.size) A1 c1 (gs.reverse ++ [gn])) :
  ∃ tau', PS w2 base tau' A1 c1 ([] :: st) (gn :: gs) := by
 have hs := hf.size
 obtain ⟨t2, ht2⟩ : ∃ t2 : Nat → Nat × Nat, t2 = fun k => if w2.heap.size ≤ k then (0, 0) else if w1.heap.size ≤ k then (0, 1) else if k = gn then (st.length + 1, 0) else if n0 ≤ k then (0, 0) else tau k := ⟨_, rfl⟩
 have hold : ∀ k, k < n0 → t2 k = tau k := fun k hk => by rw [ht2]; simp only; rw [if_neg (by omega), if_neg (by omega), if_neg (by omega), if_neg (by omega)]
 have hnz : ∀ k, tau k ≠ (0, 0) → k < n0 := fun k hk => Classical.byContradiction (fun h => hk (z k (by omega)))
 refine ⟨t2, fun k hk => by rw [ht2]; simp only; rw [if_pos hk], ?_, ?_⟩
 ·
  rw [List.reverse_cons]
  refine ho.mono (fun k h1 h2 => ?_)
  rcases h1 with h1 | h1
  ·
   rw [hold k (hnz k (by rw [h1]; decide))]; exact h1
  ·
   rw [ht2]; simp only; rw [if_neg (by omega), if_pos h1.1]
 ·
  refine ⟨⟨by rw [ht2]; simp only; rw [if_neg (by omega), if_neg (by omega), if_pos True.intro], by omega, none, 0, [], hf.blk hb (fun h => by have := hA gn h; rw [z gn hn] at this; cases this), rfl, Sl.nil _ _ _ _ _, by rw [PRL]; trivial⟩, ?_⟩
  refine Levs.mono (fun k _ h2 h3 => hold k (hnz k (fun h => by rw [h] at h2; simp at h2))) (Levs.fr hf (fun k hk => Or.inl (by rw [hA k hk])) hl)
theorem PS.put {A At A2 : Option Addr} {c ct c2 g p : Nat} {t : List PT} {r : List (List PT)} {gr hs : List Nat} {o : S37} {ts : List PT} {Fp : Nat → Prop} (z : ∀ k, n0 ≤ k → tau k = (0, 0)) (hn : n0 ≤ w1.heap.size) (hbg : base ≤ g)
  (hS : Sl kp 124 w1 base (fun k => tau k = (0, 1)) A c (g :: gr).reverse) (hg : tau g = (r.length + 1, 0)) (hblk : w1.heap[g]? = some (.cells (cellsP op0 At t.length ct) 126 (0, 0))) (hl : hs.length = t.length)
  (hPt : PRL w1 base (fun k => tau k = (r.length + 1, 2)) t hs) (hr : Levs w1 base tau r gr)
  (hp : PR w1 base Fp (.mk o ts) p) (hFp : ∀ k, Fp k → (r.length + 2 ≤ (tau k).1 ∧ k < n0) ∨ (n0 ≤ k ∧ k < w1.heap.size)) (hAt : ∀ k, own At k → tau k = (r.length + 1, 1))
  (ho : Sl kp 124 w2 base (Gr (fun k => tau k = (r.length + 1, 1)) w1.heap.size w2.heap.size) A2 c2 (hs ++ [p])) (hf : Fr (own At) w1 w2) :
  ∃ tau', PS (w2.setCell ⟨g, 9, none⟩ (.slice A2 (t.length + 1) c2)) base tau' A c ((t ++ [.mk o ts]) :: r) (g :: gr) := by
 have hs2 := hf.size
 have hgn : g < n0 := Classical.byContradiction (fun h => by have := z g (by omega); rw [hg] at this; simp at this)
 have hnz : ∀ k, tau k ≠ (0, 0) → k < n0 := fun k hk => Classical.byContradiction (fun h => hk (z k (by omega)))
 obtain ⟨t2, ht2⟩ : ∃ t2 : Nat → Nat × Nat, t2 = fun k => if w2.heap.size ≤ k then (0, 0) else if w1.heap.size ≤ k then (r.length + 1, 1) else if n0 ≤ k ∨ r.length + 2 ≤ (tau k).1 then (r.length + 1, 2) else tau k := ⟨_, rfl⟩
 have hold : ∀ k, k < n0 → (tau k).1 < r.length + 2 → t2 k = tau k := fun k hk h1 => by rw [ht2]; simp only; rw [if_neg (by omega), if_neg (by omega), if_neg (by omega)]
 have hb2 : w2.heap[g]? = some (.cells (cellsP op0 At t.length ct) 126 (0, 0)) := hf.blk hblk (fun h => by have := hAt g h; rw [hg] at this; simp at this)
 have hf3 : Fr (fun k => k = g) w2 (w2.setCell ⟨g, 9, none⟩ (.slice A2 (t.length + 1) c2)) := (Fr.refl _ w2).set _ (Or.inl rfl)
 have e3 : (w2.setCell ⟨g, 9, none⟩ (.slice A2 (t.length + 1) c2)).heap.size = w2.heap.size := by simp
 have ntag : ∀ k, (tau k).2 ≠ 0 → k ≠ g := fun k hk h => by subst h; rw [hg] at hk; exact hk rfl
 refine ⟨t2, fun k hk => by rw [e3] at hk; rw [ht2]; simp only; rw [if_pos hk], ?_, ⟨?_, hbg, A2, c2, hs ++ [p], ?_, by rw [List.length_append, List.length_append, hl]; rfl, ?_, ?_⟩, ?_⟩
 ·
  refine ((hS.fr hf (fun k h1 h2 => by have := hAt k h2; rw [h1] at this; simp at this)).fr hf3 (fun k h1 h2 => ntag k (by rw [h1]; simp) h2)).mono (fun k h1 h2 => ?_)
  rw [hold k (hnz k (by rw [h1]; decide)) (by rw [h1]; omega)]; exact h1
 ·
  rw [hold g hgn (by rw [hg]; simp)]; exact hg
 ·
  rw [List.length_append, List.length_singleton]
  exact xaS hb2 9 _ rfl
 ·
  refine (ho.fr hf3 (fun k h1 h2 => ?_)).mono (fun k h1 h2 => ?_)
  ·
   rcases h1 with h1 | h1
   ·
    exact ntag k (by rw [h1]; simp) h2
   ·
    omega
  ·
   rw [e3] at h2
   rcases h1 with h1 | h1
   ·
    rw [hold k (hnz k (by rw [h1]; simp)) (by rw [h1]; simp)]; exact h1
   ·
    rw [ht2]; simp only; rw [if_neg (by omega), if_pos h1.1]
 ·
  refine PRL.app ?_ ?_
  ·
   refine ((hPt.fr hf (fun k h1 h2 => by have := hAt k h2; rw [h1] at this; simp at this)).fr hf3 (fun k h1 h2 => ntag k (by rw [h1]; simp) h2)).mono (fun k h1 h2 => ?_)
   rw [hold k (hnz k (by rw [h1]; simp)) (by rw [h1]; simp)]; exact h1
  ·
   rw [PRL, PRL]
   refine ⟨((hp.fr hf (fun k h1 h2 => ?_)).fr hf3 (fun k h1 h2 => ?_)).mono (fun k h1 h2 => ?_), trivial⟩
   ·
    have h3 := hAt k h2
    rcases hFp k h1 with h4 | h4
    ·
     rw [h3] at h4; simp at h4
    ·
     rw [z k h4.1] at h3; simp at h3
   ·
    subst h2
    rcases hFp k h1 with h4 | h4
    ·
     rw [hg] at h4; simp at h4
    ·
     omega
   ·
    have h5 : k < w1.heap.size := by rcases hFp k h1 with h4 | h4 <;> omega
    rw [ht2]; simp only; rw [if_neg (by omega), if_neg (by omega), if_pos (by rcases hFp k h1 with h4 | h4; exact Or.inr h4.1; exact Or.inl h4.1)]
 ·
  refine Levs.mono (fun k _ h2 h3 => hold k (hnz k (fun h => by rw [h] at h2; simp at h2)) (by omega)) (Levs.fr hf3 (fun k hk => by subst hk; rw [hg]; right; simp) (Levs.fr hf (fun k hk => by rw [hAt k hk]; right; simp) hr))
end
theorem codeS_len : ∀ (st : List (List PT)), ∀ t ∈ st, t.length ≤ (codeS st).length
 | [], t, h => by cases h
 | [b], t, h => by rw [List.mem_singleton.1 h, codeS]; exact xeM b
 | t1 :: u :: r, t, h => by
  rw [xeS, List.length_append, List.length_cons]
  rcases List.mem_cons.1 h with rfl | h
  ·
   have := xeM t; omega
  ·
   have := codeS_len (u :: r) t h; omega
theorem stF {l : List S37} (h : (chk l).1 = 0) (hw : ∀ o ∈ l, o.f1 < 18446744073709551616) {i : Nat} (hi : i < l.length) :
  xbX (l.take i) ≠ [] ∧ (xbX (l.take i)).length ≤ 8193 ∧ (∀ t ∈ xbX (l.take i), t.length ≤ 8192) ∧ (l[i].f0 ≠ 1 → addsB l[i].f0 = false → 2 ≤ (xbX (l.take i)).length) ∧ xbX (l.take (i + 1)) = stepS (xbX (l.take i)) l[i] := by
 obtain ⟨b, _, _, _, hall⟩ := forest h hw
 have hlen : l.length ≤ 8192 := (xfG h).1.len
 have h0 := hall i (by omega)
 have h1 := hall (i + 1) (by omega)
 have hne : ∀ j, xbX (l.take j) = [] → j ≤ l.length → (0 < j) → False := fun j e hj h0 => by
  have h2 := (hall j hj).code
  rw [e, codeS] at h2
  have h3 := congrArg List.length h2
  rw [List.length_take, List.length_nil] at h3
  omega
 have e : xbX (l.take (i + 1)) = stepS (xbX (l.take i)) l[i] := by unfold xbX; rw [List.take_succ_eq_append_getElem hi, List.foldl_append]; rfl
 have hd := xgY hi;have hl0 := h0.len;have hl1 := h1.len
 have hn1 : 0 < (xbX (l.take (i + 1))).length := Nat.pos_of_ne_zero (fun hz => hne (i + 1) (List.eq_nil_of_length_eq_zero hz) (by omega) (by omega))
 have hrow : ∀ t ∈ xbX (l.take i), t.length ≤ 8192 := fun t ht => by
  have h2 := codeS_len _ t ht
  rw [h0.code, List.length_take] at h2
  omega
 have hfo : xcC l[i] = true := by
  have hgo : (chkGo l 0 0 0).1 = 0 := by unfold chk at h; rw [if_neg (by omega)] at h; exact h
  exact (xhM l 0 0 0 0 (Int.le_refl _) (Int.le_refl _) (by omega) hgo).1 _ (List.getElem_mem hi)
 have hup : ∀ (r : List S37), (depthL r) ≤ (r.length : Int) := fun r => by
  unfold depthL
  induction r with
  | nil => exact Int.le_refl _
  | cons o r ih => rw [List.map_cons, List.sum_cons, List.length_cons]; have h1 : dOf o ≤ 1 := (by unfold dOf; split; omega; split <;> omega); push_cast; omega
 have hup2 := hup (l.take i)
 rw [List.length_take] at hup2
 refine ⟨fun hz => ?_, by omega, hrow, fun h2 h3 => ?_, e⟩
 ·
  by_cases hi0 : 0 < i
  ·
   exact hne i hz (by omega) hi0
  ·
   rw [show i = 0 by omega, List.take_zero] at hz
   cases hz
 ·
  obtain ⟨hk, _⟩ := xeQ hfo
  have h4 : 4 ≤ l[i].f0 := by
   have h5 : ¬ (l[i].f0 = 2 ∨ l[i].f0 = 3) := fun h6 => by rw [(xbV _).2 h6] at h3; cases h3
   omega
  have : dOf l[i] = -1 := by unfold dOf; rw [if_neg h2, if_pos h4]
  omega
theorem xhG {w : World} {base : Nat} {F : Nat → Prop} {A : Option Addr} {c g : Nat} {xs ys : List Nat} (h : Sl kp 124 w base F A c xs) (e : xs = ys ++ [g]) : ∃ ad, A = some ad ∧ w.cell? (ad.add ys.length) = some (.pointer (some ⟨g, 0, none⟩)) := by
 have hl : xs.length = ys.length + 1 := by rw [e, List.length_append]; rfl
 obtain ⟨ad, cc, hA, _, hK, hc⟩ := Kd.C_get h.C 0 (ys.length : Int) (by omega) (by omega)
 have h1 : cc = [encP (xs.getD (ys.length : Int).toNat 0)] := hK
 have h2 := hc 0 (encP (xs.getD (ys.length : Int).toNat 0)) (by rw [h1]; rfl)
 have h3 : xs.getD (ys.length : Int).toNat 0 = g := by rw [e, Int.toNat_natCast]; simp
 rw [h3, Int.toNat_natCast, show ys.length * kp.sz + 0 = ys.length from (by show ys.length * 1 + 0 = ys.length; omega)] at h2
 exact ⟨ad, hA, h2⟩
theorem Sl.lit1 {base : Nat} {F : Nat → Prop} (w : World) (g : Nat) (hb : base ≤ w.heap.size) (hF : F w.heap.size) : Sl kp 124 (w.alloc (.cells #[.pointer (some ⟨g, 0, none⟩)] 124 (0, 0))) base F (some ⟨w.heap.size, 0, none⟩) 1 [g] :=
 ⟨Nat.le_refl _, by simp, Or.inr ⟨w.heap.size, 0, #[encP g], [encP g], rfl, hF, hb, xbB _ _, by show 0 + 1 * 1 ≤ 1; omega, ⟨rfl, fun j p hj => by
  match j, hj with
  | 0, hj => injection hj with hj; subst hj; rfl
  | j + 1, hj => simp at hj⟩, rfl⟩⟩
theorem Levs.head {w : World} {base : Nat} {tau : Nat → Nat × Nat} {t : List PT} {r : List (List PT)} {gs : List Nat} (h : Levs w base tau (t :: r) gs) : ∃ g gr, gs = g :: gr ∧ Lev w base tau r.length g t ∧ Levs w base tau r gr := by
  match gs, h with
  | g :: gr, h => exact ⟨g, gr, rfl, h.1, h.2⟩
theorem Levs.nilE {w : World} {base : Nat} {tau : Nat → Nat × Nat} {gs : List Nat} (h : Levs w base tau [] gs) : gs = [] := by
  match gs, h with
  | [], h => rfl
theorem cw (n m : Nat) (h : n = m + 1) (hm : m ≤ 8193) : IntKind.i64.wrap ((n : Int) - 1) = (m : Int) := by rw [i64_w]; unfold wrap64; omega
theorem pieces_c (l : List S37) (hchk : (chk l).1 = 0) (hw : ∀ o ∈ l, o.f1 < 18446744073709551616) (w : World) (A : Option Addr) (c : Nat) (hr : Kd.C k37 w A l.length l) :
  Calls Tryz.prog 44 #[.slice A l.length c] w fun e w' => ∃ b A' c' hs, xbX l = [b] ∧ e = .returned (.slice A' b.length c') ∧ hs.length = b.length ∧ Sl kp 124 w' w.heap.size (fun _ => True) A' c' hs ∧ PRL w' w.heap.size (fun _ => True) b hs ∧ Below w.heap.size w w' := by
 obtain ⟨b, hb, _, _, _⟩ := forest hchk hw
 have HRES := Aside0.mk hb
 have HLL : Aside0 (l.length ≤ 8192) := ⟨(xfG hchk).1.len⟩
 have HSTF : Aside0 (∀ i (hi : i < l.length), xbX (l.take i) ≠ [] ∧ (xbX (l.take i)).length ≤ 8193 ∧ (∀ t ∈ xbX (l.take i), t.length ≤ 8192) ∧ (l[i].f0 ≠ 1 → addsB l[i].f0 = false → 2 ≤ (xbX (l.take i)).length) ∧ xbX (l.take (i + 1)) = stepS (xbX (l.take i)) l[i]) := ⟨fun i hi => stF hchk hw hi⟩
 have HR := Aside0.mk hr;clear hchk hw hr hb
 go_enter Tryz.func44, Tryz.ntmps44
 go_upto_region 2 with ((with_reducible refine xaU (N := 9) rfl ?_); refine xaT ?hg (N := 9) ?hd (cs := #[.int .i64 0, .float .f64 0, .float .f64 0, .int .i64 0, .int .i64 0, .int .i64 0, .int .i64 0, .int .i64 0, .int .i64 0, .slice none 0 0]) (t := 126) ?hr ?_; (case hd => rfl); (case hg => rfl); (case hr => first | (go_simp; done) | (go_simp; rfl)); intro g0 hg w1 hbox hb; have BG0 := Aside0.mk hbox; have HG0 := Aside0.mk hg; have HB0 := Aside0.mk hb; clear hb hbox hg; skip)
 have HW0 : Aside0 (∃ tau Ak, Ak = some ⟨w1.heap.size, 0, none⟩ ∧ PS (w1.alloc (.cells #[.pointer (some ⟨g0, 0, none⟩)] 124)) w.heap.size tau Ak 1 [[]] [g0] ∧ Below w.heap.size w (w1.alloc (.cells #[.pointer (some ⟨g0, 0, none⟩)] 124))) := ⟨by
  refine ⟨fun k => if k = g0 then (1, 0) else if k = w1.heap.size then (0, 1) else (0, 0), _, rfl, ⟨fun k hk => ?_, ?_, ⟨?_, ?_⟩, ?_⟩, xaC HB0.out _⟩
  ·
   have h1 := HG0.out; have h2 := HB0.out.size
   have h3 : (w1.alloc (.cells #[.pointer (some ⟨g0, 0, none⟩)] 124)).heap.size = w1.heap.size + 1 := by simp
   have h4 := blk_lt BG0.out
   rw [if_neg (by omega), if_neg (by omega)]
  ·
   have h4 := blk_lt BG0.out
   exact Sl.lit1 _ _ HB0.out.size (by rw [if_neg (by omega), if_pos rfl])
  ·
   show (if g0 = g0 then ((1, 0) : Nat × Nat) else _) = _; rw [if_pos rfl]; rfl
  ·
   exact ⟨by rw [HG0.out]; exact Nat.le_refl _, none, 0, [], xaE BG0.out _, rfl, Sl.nil _ _ _ _ _, by rw [PRL]; trivial⟩
  ·
   trivial⟩
 obtain ⟨tau0, Ak0, hA0, hps0, hbw0⟩ := HW0.out
 rw [← hA0]
 have HPS0 := Aside0.mk hps0;have HBW0 := Aside0.mk hbw0;clear HW0 hA0 hps0 hbw0 HG0 HB0 BG0
 generalize w1.alloc (.cells #[.pointer (some ⟨g0, 0, none⟩)] 124) = w2 at HPS0 HBW0 ⊢
 go_wp2_with fail
 go_loopg [3, 13] (l.length) (fun kq v3 v13 w' => ∃ (i : Nat) (tau : Nat → Nat × Nat) (Ak : Option Addr) (ck : Nat) (gs : List Nat), kq + i = l.length ∧ i ≤ l.length ∧ v13 = .int .i64 i ∧ v3 = .slice Ak gs.length ck ∧ Aside0 (PS w' w.heap.size tau Ak ck (xbX (l.take i)) gs) ∧ Aside0 (Below w.heap.size w w'))
 case atStart => exact ⟨0, tau0, Ak0, 1, [g0], by omega, by omega, rfl, rfl, HPS0, HBW0⟩
 case round =>
  obtain ⟨i, tau, Ak, ck, gs, hk, hi, rfl, rfl, HPS, HBW⟩ := hrel
  have HZ := Aside0.mk HPS.out.z;have HS := Aside0.mk HPS.out.s;have HL := Aside0.mk HPS.out.l;clear HPS
  by_cases hlt : i < l.length
  rotate_left
  ·
   have e : l.take i = l := List.take_of_length_le (by omega)
   have hl2 := HL.out
   rw [e, HRES.out] at hl2
   obtain ⟨g, gr, rfl, hlev, hrest⟩ := hl2.head
   obtain rfl := hrest.nilE
   obtain ⟨hg0, hbg, At, ct, hs, hblk, hhl, hSt, hPt⟩ := hlev
   obtain ⟨ad, rfl, hcell⟩ := xhG (ys := []) HS.out rfl
   have hcell0 : wr.cell? ad = some (.pointer (some ⟨g, 0, none⟩)) := hcell
   have BG := Aside0.mk hblk;have HHL := Aside0.mk hhl
   have HST := Aside0.mk (hSt.mono (G := fun _ => True) (fun _ _ _ => trivial))
   have HPT := Aside0.mk (PRL.mono (G := fun _ => True) (fun _ _ _ => trivial) _ _ hPt)
   have gc9 : wr.cell? ⟨g, 9, none⟩ = some (.slice At b.length ct) := (xaA hblk 9).trans rfl
   clear hl2 hrest hblk hhl hSt hPt hg0 e hcell
   go_wp2_with fail
   go_ret
   exact ⟨b, At, ct, hs, HRES.out, rfl, HHL.out, HST.out, HPT.out, HBW.out⟩
  have hc := Kd.xbP HR.out HBW.out
  obtain ⟨ad, e, q0, q1, q2, q3, q4, q5, q6, q7, q8⟩ := at_T37 hc (i : Int) (by omega) (by omega)
  subst e
  rw [rd37 hlt] at q0 q1 q2 q3 q4 q5 q6 q7 q8
  rw [Int.toNat_natCast] at q0 q1 q2 q3 q4 q5 q6 q7 q8
  obtain ⟨hs1, hs2, hs3, hs4, hs5⟩ := HSTF.out i hlt
  obtain ⟨o, ho⟩ : ∃ o, o = l[i] := ⟨_, rfl⟩
  rw [← ho] at q0 q1 q2 q3 q4 q5 q6 q7 q8 hs4 hs5
  have HNX := Aside0.mk hs5;have HROW := Aside0.mk hs3;have HTWO := Aside0.mk hs4;have HSL := Aside0.mk hs2;have HSN := Aside0.mk hs1;clear hs1 hs2 hs3 hs4 hs5 ho hc
  generalize xbX (l.take i) = st at HL HNX HROW HTWO HSL HSN
  have HGL := Aside0.mk HL.out.len;have HBASE := Aside0.mk HBW.out.size
  have B5 := Aside0.mk (xbB wr (.cells #[.int .i64 o.f0, .float .f64 o.f1, .float .f64 o.f2, .int .i64 o.f3, .int .i64 o.f4, .int .i64 o.f5, .int .i64 o.f6, .int .i64 o.f7, .int .i64 o.f8] 37))
  have HB5 := Aside0.mk (xaC (Below.refl wr.heap.size wr) (.cells #[.int .i64 o.f0, .float .f64 o.f1, .float .f64 o.f2, .int .i64 o.f3, .int .i64 o.f4, .int .i64 o.f5, .int .i64 o.f6, .int .i64 o.f7, .int .i64 o.f8] 37))
  obtain ⟨c0, c1, c2, c3, c4, c5, c6, c7, c8, z0, z1, z2, z3, z4, z5, z6, z7, z8⟩ := blk9 B5
  clear z0 z1 z2 z3 z4 z5 z6 z7 z8
  have hmx : (i : Int) + 1 ≤ 9223372036854775807 := by have := HLL.out; omega
  by_cases a1 : o.f0 = 1
  ·
   have t1 : (o.f0 == 1) = true := beq_iff_eq.2 a1
   have HA1 := Aside0.mk a1;clear a1
   go_wp2_with (first | ((with_reducible refine xaU (N := 22) rfl ?_); refine xaT ?hg (N := 22) ?hd (cs := #[.int .i64 0, .float .f64 0, .float .f64 0, .int .i64 0, .int .i64 0, .int .i64 0, .int .i64 0, .int .i64 0, .int .i64 0, .slice none 0 0]) (t := 126) ?hr ?_; (case hd => rfl); (case hg => rfl); (case hr => first | (go_simp; done) | (go_simp; rfl)); intro gn hg w2 hbox hb; have BN := Aside0.mk hbox; have HGN := Aside0.mk hg; have HB2 := Aside0.mk hb; clear hb hbox hg; skip) | ((with_reducible refine xaR (b := .append) (xs := #[.tmp 20, .tmp 23]) rfl ?_); go_loud (refine Sl.xcZ rfl (.tmp 20) (.tmp 23) 97 (.pointer none) 8 rfl Tryz.underlying97 xfA rfl (by decide) (by omega) (xs := gs.reverse) (ys := [gn]) ?aS rfl (HS.out.below ((xaV HB5.out HB2.out).trans ((xaC (Below.refl _ _) _).mono (xaV HB5.out HB2.out).size))) (lit_C (d := kp) (cs := [encP gn]) rfl) ?aB ?aL ?_; (case aS => rw [List.length_reverse]; rfl); (case aB => have h1 := HBASE.out; have h2 := (xaC (xaV HB5.out HB2.out) (.cells #[.pointer (some ⟨gn, 0, none⟩)] 124)).size; omega); (case aL => rw [List.length_reverse]; have := HSL.out; have := HGL.out; omega); intro A2 c2 w3 ho hf _; have HO := Aside0.mk ho; have HF := Aside0.mk hf; clear ho hf; rw [List.length_reverse])))
   have hbelow := xaV HB5.out HB2.out
   have hbelow2 := xaC hbelow (.cells #[.pointer (some ⟨gn, 0, none⟩)] 124)
   have hpush := PS.push (n0 := wr.heap.size) (base := w.heap.size) (gn := gn) (st := st) HZ.out (by have h1 := HGN.out; have h2 := HB5.out.size; omega) (by have h1 := blk_lt BN.out; rw [World.size_alloc]; omega) HBASE.out (HL.out.below hbelow2) (xaE BN.out _) HF.out (fun k hk => HS.out.own_F k hk) HO.out
   obtain ⟨tau', hps⟩ := hpush
   have HPS' : Aside0 (PS w3 w.heap.size tau' A2 c2 (xbX (l.take (i + 1))) (gn :: gs)) := ⟨by rw [HNX.out]; unfold stepS; rw [if_pos HA1.out]; exact hps⟩
   have HBW' : Aside0 (Below w.heap.size w w3) := ⟨(HBW.out.trans (hbelow2.mono HBW.out.size)).trans ((HF.out.xcW (base := w.heap.size) (by have h1 := HBASE.out; have h2 := hbelow2.size; omega) (fun k hk => (HS.out.own_bd k hk).1)))⟩
   clear hps hbelow hbelow2
   go_roundg (gk - 1)
   case measure => omega
   case rel => exact ⟨i + 1, tau', A2, c2, gn :: gs, by omega, by omega, by go_num, rfl, HPS', HBW'⟩
  have t1 : (o.f0 == 1) = false := beq_eq_false_iff_ne.2 a1
  have HA1 := Aside0.mk a1;clear a1
  by_cases ha : addsB o.f0 = true
  ·
   have HADD := Aside0.mk ha
   obtain ⟨t, r, hst⟩ := List.exists_cons_of_ne_nil HSN.out
   subst hst
   obtain ⟨g, gr, rfl, hlev, hrest⟩ := HL.out.head
   obtain ⟨hg0, hbg, At, ct, hs, hblk, hhl, hSt, hPt⟩ := hlev
   obtain ⟨ad2, rfl, hcell⟩ := xhG (ys := gr.reverse) HS.out List.reverse_cons
   rw [List.length_reverse] at hcell
   obtain ⟨n, hn⟩ : ∃ n, n = (g :: gr).length := ⟨_, rfl⟩
   obtain ⟨m, hm⟩ : ∃ m, m = gr.length := ⟨_, rfl⟩
   rw [← hn]
   rw [← hm] at hcell
   have hnm : n = m + 1 := by rw [hn, hm, List.length_cons]
   have hwr := cw n m hnm (by have h1 := HGL.out; have h2 := HSL.out; rw [← hn] at h1; omega)
   have HN := Aside0.mk hn;have HGE := Aside0.mk hbg
   have p1 : m < n := by omega
   have HG0 := Aside0.mk hg0;have BG := Aside0.mk hblk;have HHL := Aside0.mk hhl;have HSt := Aside0.mk hSt;have HPt := Aside0.mk hPt;have HREST := Aside0.mk hrest
   have HTL : Aside0 (t.length ≤ 8192) := ⟨HROW.out t (List.mem_cons_self ..)⟩
   have HCL := Aside0.mk (cell_lt hcell)
   have HCELL := Aside0.mk hcell;clear hn hm hnm hg0 hblk hhl hSt hPt hrest hcell ha
   go_wp2_with (first | (((with_reducible refine xaU (N := 27) rfl ?_); refine xaT ?hg (N := 27) ?hd (cs := #[.int .i64 o.f0, .float .f64 o.f1, .float .f64 o.f2, .int .i64 o.f3, .int .i64 o.f4, .int .i64 o.f5, .int .i64 o.f6, .int .i64 o.f7, .int .i64 o.f8, .slice none 0 0]) (t := 126) ?hr ?_; (case hd => rfl); (case hg => rfl); (case hr => first | (go_simp; done) | (go_simp; rfl)); intro gp hg w2 hbox hb; have BN := Aside0.mk hbox; have HGN := Aside0.mk hg; have HB2 := Aside0.mk hb; clear hb hbox hg; skip); have HBR := Aside0.mk (xaV HB5.out HB2.out); have hcell2 := (HBR.out.cell HCL.out).trans HCELL.out; have BG2 := Aside0.mk (xaK BG.out HBR.out); have gc9 : w2.cell? ⟨g, 9, none⟩ = some (.slice At t.length ct) := (xaA BG2.out 9).trans rfl; have gz9 := xaB BG2.out 9; replace B5 := Aside0.mk (xaK B5.out HB2.out); clear c0 c1 c2 c3 c4 c5 c6 c7 c8; obtain ⟨c0, c1, c2, c3, c4, c5, c6, c7, c8, z0, z1, z2, z3, z4, z5, z6, z7, z8⟩ := blk9 B5; clear z0 z1 z2 z3 z4 z5 z6 z7 z8) | (go_at_call 67; (with_reducible refine (adds_c _ _).mono ?_); rintro e w' ⟨rfl, hw_⟩; obtain rfl := hw_.symm; rw [HADD.out]) | ((with_reducible refine xaR (b := .append) (xs := #[.tmp 59, .tmp 61]) rfl ?_); go_loud (refine Sl.xcZ rfl (.tmp 59) (.tmp 61) 97 (.pointer none) 8 rfl Tryz.underlying97 xfA rfl (by decide) (by omega) (xs := hs) (ys := [gp]) ?aS rfl (HSt.out.below (xaC HBR.out _)) (lit_C (d := kp) (cs := [encP gp]) rfl) ?aB ?aL ?_; (case aS => rw [HHL.out]; rfl); (case aB => have h1 := HBASE.out; have h2 := (xaC HBR.out (.cells #[.pointer (some ⟨gp, 0, none⟩)] 124)).size; omega); (case aL => rw [HHL.out]; have := HTL.out; omega); intro A2 c2 w3 ho hf _; have HO := Aside0.mk ho; have HF := Aside0.mk hf; clear ho hf; rw [HHL.out]; have BG3 := Aside0.mk (HF.out.blk (xaE BG2.out _) (fun h => by have h1 := HSt.out.own_F g h; rw [HG0.out] at h1; simp at h1)); clear gc9 gz9; have gc9 : w3.cell? ⟨g, 9, none⟩ = some (.slice At t.length ct) := (xaA BG3.out 9).trans rfl; have gz9 := xaB BG3.out 9)))
   have hbelow2 := xaC HBR.out (.cells #[.pointer (some ⟨gp, 0, none⟩)] 124)
   have hput := PS.put (n0 := wr.heap.size) (base := w.heap.size) (o := o) (ts := []) (p := gp) (Fp := fun k => k = gp) HZ.out hbelow2.size HGE.out (HS.out.below hbelow2) HG0.out (xaE BG2.out _) HHL.out (HPt.out.below hbelow2) (HREST.out.below hbelow2) (by
    rw [PR]
    exact ⟨rfl, none, 0, [], xaE BN.out _, rfl, Sl.nil _ _ _ _ _, by rw [PRL]; trivial⟩) (fun k hk => Or.inr (by subst hk; have h1 := HGN.out; have h2 := HB5.out.size; have h3 := blk_lt BN.out; rw [World.size_alloc]; omega)) (fun k hk => HSt.out.own_F k hk) HO.out HF.out
   obtain ⟨tau', hps⟩ := hput
   have HPS' : Aside0 (PS (w3.setCell ⟨g, 9, none⟩ (.slice A2 (t.length + 1) c2)) w.heap.size tau' (some ad2) ck (xbX (l.take (i + 1))) (g :: gr)) := ⟨by rw [HNX.out]; unfold stepS; rw [if_neg HA1.out, if_pos HADD.out]; exact hps⟩
   have HBW' : Aside0 (Below w.heap.size w (w3.setCell ⟨g, 9, none⟩ (.slice A2 (t.length + 1) c2))) := ⟨xbA ((HBW.out.trans (hbelow2.mono HBW.out.size)).trans ((HF.out.xcW (base := w.heap.size) (by have h1 := HBASE.out; have h2 := hbelow2.size; omega) (fun k hk => (HSt.out.own_bd k hk).1)))) HGE.out⟩
   clear hps hbelow2
   go_roundg (gk - 1)
   case measure => omega
   case rel => exact ⟨i + 1, tau', some ad2, ck, g :: gr, by omega, by omega, by go_num, by rw [HN.out], HPS', HBW'⟩
  ·
   have haf : addsB o.f0 = false := Bool.eq_false_iff.2 ha
   have HADD := Aside0.mk haf
   have hst2 : ∃ t' t r, st = t' :: t :: r := by
    have h1 := HTWO.out HA1.out haf
    match st, h1 with
    | [], h1 => simp at h1
    | [x], h1 => simp at h1
    | t' :: t :: r, h1 => exact ⟨t', t, r, rfl⟩
   obtain ⟨t', t, r, rfl⟩ := hst2
   obtain ⟨g', gr', rfl, hlev', hrest'⟩ := HL.out.head
   obtain ⟨g, gr, rfl, hlev, hrest⟩ := hrest'.head
   obtain ⟨hg0', hbg', At', ct', hs', hblk', hhl', hSt', hPt'⟩ := hlev'
   obtain ⟨hg0, hbg, At, ct, hs, hblk, hhl, hSt, hPt⟩ := hlev
   obtain ⟨ad2, rfl, hcell'⟩ := xhG (ys := (g :: gr).reverse) HS.out List.reverse_cons
   rw [List.length_reverse] at hcell'
   have hle := HS.out.le
   rw [List.length_reverse] at hle
   have hS2 := HS.out.head (g :: gr).length ck (by rw [List.length_reverse]; simp) (by simp only [List.length_cons] at hle ⊢; omega) (Nat.le_refl _)
   rw [show (g' :: g :: gr).reverse.take (g :: gr).length = (g :: gr).reverse by rw [List.reverse_cons]; exact List.take_left' List.length_reverse] at hS2
   obtain ⟨ad3, e3, hcell⟩ := xhG (ys := gr.reverse) hS2 List.reverse_cons
   injection e3 with e3
   subst e3
   rw [List.length_reverse] at hcell
   obtain ⟨n, hn⟩ : ∃ n, n = (g' :: g :: gr).length := ⟨_, rfl⟩
   obtain ⟨m, hm⟩ : ∃ m, m = (g :: gr).length := ⟨_, rfl⟩
   obtain ⟨m2, hm2⟩ : ∃ m2, m2 = gr.length := ⟨_, rfl⟩
   rw [← hn] at hle ⊢
   rw [← hm] at hcell'
   rw [← hm2] at hcell
   have hnm : n = m + 1 := by rw [hn, hm, List.length_cons]
   have hmm : m = m2 + 1 := by rw [hm, hm2, List.length_cons]
   have hlim : n ≤ 8193 := by have h1 := HGL.out; have h2 := HSL.out; rw [← hn] at h1; omega
   have hwr1 := cw n m hnm (by omega)
   have hwr2 := cw m m2 hmm (by omega)
   have HM := Aside0.mk hm
   have p1 : m < n := by omega
   have p2 : m2 < m := by omega
   have q1 : m ≤ ck := by omega
   have HG0 := Aside0.mk hg0;have HGE := Aside0.mk hbg;have BG := Aside0.mk hblk;have HHL := Aside0.mk hhl;have HSt := Aside0.mk hSt;have HPt := Aside0.mk hPt;have BG' := Aside0.mk hblk';have HHL' := Aside0.mk hhl';have HSt' := Aside0.mk hSt';have HPt' := Aside0.mk hPt';have HREST := Aside0.mk hrest
   have HTL : Aside0 (t.length ≤ 8192) := ⟨HROW.out t (List.mem_cons_of_mem _ (List.mem_cons_self ..))⟩
   have HCL := Aside0.mk (cell_lt hcell)
   have HCELL := Aside0.mk hcell
   have HCL' := Aside0.mk (cell_lt hcell')
   have HCELL' := Aside0.mk hcell';have HS2 := Aside0.mk hS2;clear hn hm hm2 hnm hmm hlim hg0 hbg hblk hhl hSt hPt hg0' hbg' hblk' hhl' hSt' hPt' hrest hrest' hcell hcell' hS2 ha haf
   go_upto_region 10 with (first | (((with_reducible refine xaU (N := 27) rfl ?_); refine xaT ?hg (N := 27) ?hd (cs := #[.int .i64 o.f0, .float .f64 o.f1, .float .f64 o.f2, .int .i64 o.f3, .int .i64 o.f4, .int .i64 o.f5, .int .i64 o.f6, .int .i64 o.f7, .int .i64 o.f8, .slice none 0 0]) (t := 126) ?hr ?_; (case hd => rfl); (case hg => rfl); (case hr => first | (go_simp; done) | (go_simp; rfl)); intro gp hg w2 hbox hb; have BN := Aside0.mk hbox; have HGN := Aside0.mk hg; have HB2 := Aside0.mk hb; clear hb hbox hg; skip); have HBR := Aside0.mk (xaV HB5.out HB2.out); have hcell2 := (HBR.out.cell HCL'.out).trans HCELL'.out; have BG2 := Aside0.mk (xaK BG'.out HBR.out); have gc9 : w2.cell? ⟨g', 9, none⟩ = some (.slice At' t'.length ct') := (xaA BG2.out 9).trans rfl; have gz9 := xaB BG2.out 9; have pc9 : w2.cell? ⟨gp, 9, none⟩ = some (.slice none 0 0) := (xaA BN.out 9).trans rfl; have pz9 := xaB BN.out 9; replace B5 := Aside0.mk (xaK B5.out HB2.out); clear c0 c1 c2 c3 c4 c5 c6 c7 c8; obtain ⟨c0, c1, c2, c3, c4, c5, c6, c7, c8, z0, z1, z2, z3, z4, z5, z6, z7, z8⟩ := blk9 B5; clear z0 z1 z2 z3 z4 z5 z6 z7 z8) | (go_at_call 67; (with_reducible refine (adds_c _ _).mono ?_); rintro e w' ⟨rfl, hw_⟩; obtain rfl := hw_.symm; rw [HADD.out]))
   clear hcell2 gc9 gz9 pc9 pz9 c0 c1 c2 c3 c4 c5 c6 c7 c8 q0 q2 q3 q4 q5 q6 q7 q8
   have hbn3 := xaS BN.out 9 (.slice At' t'.length ct') rfl
   have HGP : Aside0 (wr.heap.size ≤ gp) := ⟨by have h1 := HGN.out; have h2 := HB5.out.size; omega⟩
   have hbr3 := xbA (j := 9) (v := .slice At' t'.length ct') HBR.out HGP.out
   have BN3 := Aside0.mk hbn3;have HBR3 := Aside0.mk hbr3;clear hbn3 hbr3
   generalize w2.setCell ⟨gp, 9, none⟩ (.slice At' t'.length ct') = W3 at BN3 HBR3 ⊢
   have hcell3 := (HBR3.out.cell HCL.out).trans HCELL.out
   have BG3 := Aside0.mk (xaK BG.out HBR3.out)
   have gc9 : W3.cell? ⟨g, 9, none⟩ = some (.slice At t.length ct) := (xaA BG3.out 9).trans rfl; have gz9 := xaB BG3.out 9
   go_wp2_with ((with_reducible refine xaR (b := .append) (xs := #[.tmp 59, .tmp 61]) rfl ?_); go_loud (refine Sl.xcZ rfl (.tmp 59) (.tmp 61) 97 (.pointer none) 8 rfl Tryz.underlying97 xfA rfl (by decide) (by omega) (xs := hs) (ys := [gp]) ?aS rfl (HSt.out.below (xaC HBR3.out _)) (lit_C (d := kp) (cs := [encP gp]) rfl) ?aB ?aL ?_; (case aS => rw [HHL.out]; rfl); (case aB => have h1 := HBASE.out; have h2 := (xaC HBR3.out (.cells #[.pointer (some ⟨gp, 0, none⟩)] 124)).size; omega); (case aL => rw [HHL.out]; have := HTL.out; omega); intro A2 c2 w4 ho hf _; have HO := Aside0.mk ho; have HF := Aside0.mk hf; clear ho hf; rw [HHL.out]; have BG4 := Aside0.mk (HF.out.blk (xaE BG3.out _) (fun h => by have h1 := HSt.out.own_F g h; rw [HG0.out] at h1; simp at h1)); clear gc9 gz9; have gc9 : w4.cell? ⟨g, 9, none⟩ = some (.slice At t.length ct) := (xaA BG4.out 9).trans rfl; have gz9 := xaB BG4.out 9))
   have hbelow2 := xaC HBR3.out (.cells #[.pointer (some ⟨gp, 0, none⟩)] 124)
   have hput := PS.put (n0 := wr.heap.size) (base := w.heap.size) (o := o) (ts := t') (p := gp) (Fp := fun k => k = gp ∨ (tau k).1 = r.length + 2) HZ.out hbelow2.size HGE.out (HS2.out.below hbelow2) HG0.out (xaE BG3.out _) HHL.out (HPt.out.below hbelow2) (HREST.out.below hbelow2) (by
    rw [PR]
    exact ⟨Or.inl rfl, At', ct', hs', xaE BN3.out _, HHL'.out, (HSt'.out.below hbelow2).mono (fun k h _ => Or.inr (by rw [h]; rfl)), PRL.mono (fun k h _ => Or.inr (by rw [h]; rfl)) _ _ (HPt'.out.below hbelow2)⟩) (fun k hk => by
    rcases hk with hk | hk
    ·
     exact Or.inr (by subst hk; have h1 := HGP.out; have h3 := blk_lt BN3.out; rw [World.size_alloc]; omega)
    ·
     exact Or.inl ⟨by omega, Classical.byContradiction (fun h => by rw [HZ.out k (by omega)] at hk; simp at hk)⟩) (fun k hk => HSt.out.own_F k hk) HO.out HF.out
   obtain ⟨tau', hps⟩ := hput
   have HPS' : Aside0 (PS (w4.setCell ⟨g, 9, none⟩ (.slice A2 (t.length + 1) c2)) w.heap.size tau' (some ad2) ck (xbX (l.take (i + 1))) (g :: gr)) := ⟨by rw [HNX.out]; unfold stepS; rw [if_neg HA1.out, if_neg (by rw [HADD.out]; decide)]; exact hps⟩
   have HBW' : Aside0 (Below w.heap.size w (w4.setCell ⟨g, 9, none⟩ (.slice A2 (t.length + 1) c2))) := ⟨xbA ((HBW.out.trans (hbelow2.mono HBW.out.size)).trans ((HF.out.xcW (base := w.heap.size) (by have h1 := HBASE.out; have h2 := hbelow2.size; omega) (fun k hk => (HSt.out.own_bd k hk).1)))) HGE.out⟩
   clear hps hbelow2
   go_roundg (gk - 1)
   case measure => omega
   case rel => exact ⟨i + 1, tau', some ad2, ck, g :: gr, by omega, by omega, by go_num, by rw [HM.out], HPS', HBW'⟩
def l3 : List S37 := [⟨1, 0, 0, 0, 0, 0, 0, 0, 0⟩, ⟨2, 4607182418800017408, 0, 9, 0, 1, 0, 0, 0⟩, ⟨5, 4611686018427387904, 0, 0, 0, 0, 0, 0, 0⟩]
theorem chk3 : chk l3 = (0, 0, 1) := by decide +kernel
def s1 : St := ⟨l3, 1, [], [0], false, 0⟩
def s2 : St := ⟨l3, 3, [⟨9, 4611686018427387904, 1⟩], [], true, 0⟩
theorem step3a : stepM fixF (st0 l3) 1 = (⟨1, false, 0⟩, 0, s1) := by rfl
theorem step3b : stepM fixF s1 5 = (⟨2, true, 0⟩, 0, s2) := by rfl
theorem run3 : runT fixF (0, 0) l3 = ([⟨9, 4611686018427387904, 1⟩], 0) := by rfl
theorem good3 : Good fixF l3 := (xfG (l := l3) (by rw [chk3])).1
theorem inv1 : Inv s1 := by
 have h := step_inv (fxs := fixF) (s := st0 l3) good3 (inv0 l3) 1
 rw [step3a] at h
 exact h.1
theorem ck3 : CkC l3 (0, 0) := by
 have h := ck_chk l3
 rw [chk3] at h
 exact h
theorem C3 {w : World} (x y z : S37) : Kd.C k37 (w.alloc (.cells #[.int .i64 x.f0, .float .f64 x.f1, .float .f64 x.f2, .int .i64 x.f3, .int .i64 x.f4, .int .i64 x.f5, .int .i64 x.f6, .int .i64 x.f7, .int .i64 x.f8, .int .i64 y.f0, .float .f64 y.f1, .float .f64 y.f2, .int .i64 y.f3, .int .i64 y.f4, .int .i64 y.f5, .int .i64 y.f6, .int .i64 y.f7, .int .i64 y.f8, .int .i64 z.f0, .float .f64 z.f1, .float .f64 z.f2, .int .i64 z.f3, .int .i64 z.f4, .int .i64 z.f5, .int .i64 z.f6, .int .i64 z.f7, .int .i64 z.f8] 37)) (some ⟨w.heap.size, 0, none⟩) 3 [x, y, z] := by
 have hn := xbB w (.cells #[.int .i64 x.f0, .float .f64 x.f1, .float .f64 x.f2, .int .i64 x.f3, .int .i64 x.f4, .int .i64 x.f5, .int .i64 x.f6, .int .i64 x.f7, .int .i64 x.f8, .int .i64 y.f0, .float .f64 y.f1, .float .f64 y.f2, .int .i64 y.f3, .int .i64 y.f4, .int .i64 y.f5, .int .i64 y.f6, .int .i64 y.f7, .int .i64 y.f8, .int .i64 z.f0, .float .f64 z.f1, .float .f64 z.f2, .int .i64 z.f3, .int .i64 z.f4, .int .i64 z.f5, .int .i64 z.f6, .int .i64 z.f7, .int .i64 z.f8] 37)
 refine ⟨rfl, by omega, fun _ => ⟨_, rfl, fun j q hj => ?_⟩⟩
 match j, hj with
 | 0, hj =>
  obtain rfl : x = q := by simpa using hj
  refine ⟨_, rfl, k37_mk _ _, fun i u hu => ?_⟩
  rw [Nat.zero_mul, Nat.zero_add, Addr.add_lit, Nat.zero_add, xaA hn]
  match i, hu with
  | 0, hu | 1, hu | 2, hu | 3, hu | 4, hu | 5, hu | 6, hu | 7, hu | 8, hu => exact hu
  | n + 9, hu => simp at hu
 | 1, hj =>
  obtain rfl : y = q := by simpa using hj
  refine ⟨_, rfl, k37_mk _ _, fun i u hu => ?_⟩
  rw [Addr.add_lit, xaA hn]
  match i, hu with
  | 0, hu | 1, hu | 2, hu | 3, hu | 4, hu | 5, hu | 6, hu | 7, hu | 8, hu => exact hu
  | n + 9, hu => simp at hu
 | 2, hj =>
  obtain rfl : z = q := by simpa using hj
  refine ⟨_, rfl, k37_mk _ _, fun i u hu => ?_⟩
  rw [Addr.add_lit, xaA hn]
  match i, hu with
  | 0, hu | 1, hu | 2, hu | 3, hu | 4, hu | 5, hu | 6, hu | 7, hu | 8, hu => exact hu
  | n + 9, hu => simp at hu
 | n + 3, hj => simp at hj
theorem awake_c (w : World) (hk : KT w) : Calls Tryz.prog 9 #[] w fun e w' => e = .returned (.bool true) ∧ Below w.heap.size w w' := by
 have HK := Aside0.mk hk;clear hk
 go_enter Tryz.func9, Tryz.ntmps9
 go_upto_region 2 with fail
 have HR := Aside0.mk (C3 (w := w) ⟨1, 0, 0, 0, 0, 0, 0, 0, 0⟩ ⟨2, 4607182418800017408, 0, 9, 0, 1, 0, 0, 0⟩ ⟨5, 4611686018427387904, 0, 0, 0, 0, 0, 0, 0⟩)
 simp only at HR
 have HB := Aside0.mk (xaC (Below.refl w.heap.size w) (.cells #[.int .i64 1, .float .f64 0, .float .f64 0, .int .i64 0, .int .i64 0, .int .i64 0, .int .i64 0, .int .i64 0, .int .i64 0, .int .i64 2, .float .f64 4607182418800017408, .float .f64 0, .int .i64 9, .int .i64 0, .int .i64 1, .int .i64 0, .int .i64 0, .int .i64 0, .int .i64 5, .float .f64 4611686018427387904, .float .f64 0, .int .i64 0, .int .i64 0, .int .i64 0, .int .i64 0, .int .i64 0, .int .i64 0] 37))
 have HKW := Aside0.mk (HK.out.below (xaC (Below.refl w.heap.size w) (.cells #[.int .i64 1, .float .f64 0, .float .f64 0, .int .i64 0, .int .i64 0, .int .i64 0, .int .i64 0, .int .i64 0, .int .i64 0, .int .i64 2, .float .f64 4607182418800017408, .float .f64 0, .int .i64 9, .int .i64 0, .int .i64 1, .int .i64 0, .int .i64 0, .int .i64 0, .int .i64 5, .float .f64 4611686018427387904, .float .f64 0, .int .i64 0, .int .i64 0, .int .i64 0, .int .i64 0, .int .i64 0, .int .i64 0] 37)))
 generalize w.heap.size = gb at HR ⊢
 generalize w.alloc (.cells #[.int .i64 1, .float .f64 0, .float .f64 0, .int .i64 0, .int .i64 0, .int .i64 0, .int .i64 0, .int .i64 0, .int .i64 0, .int .i64 2, .float .f64 4607182418800017408, .float .f64 0, .int .i64 9, .int .i64 0, .int .i64 1, .int .i64 0, .int .i64 0, .int .i64 0, .int .i64 5, .float .f64 4611686018427387904, .float .f64 0, .int .i64 0, .int .i64 0, .int .i64 0, .int .i64 0, .int .i64 0, .int .i64 0] 37) = W at HR HB HKW ⊢
 have hn : Calls Tryz.prog 14 #[.slice (some ⟨gb, 0, none⟩) 3 3] W fun e w' => ∃ gn A1 c1, e = .returned (.tuple #[.pointer (some ⟨gn, 0, none⟩), .int .i64 0, .int .i64 0]) ∧ Below W.heap.size W w' ∧ Mx w' W.heap.size gn (fun k => k = gn) A1 c1 none 0 none 0 (st0 l3) ∧ (∀ k, own A1 k → W.heap.size ≤ k) := new_ok (l := l3) HKW.out HR.out ck3 rfl (by decide)
 have HN := Aside0.mk hn;clear hn
 go_upto_region 5 with (go_at_call 14; (with_reducible refine (HN.out).mono ?_); rintro e w1 ⟨gn, A1, k1, rfl, hb, hx, ho⟩; have HBW := Aside0.mk hb; have HX := Aside0.mk hx; clear hb hx ho)
 have HS := Aside0.mk (step_ok (fxs := fixF) HX.out good3 (inv0 l3) 1 (by omega))
 go_upto_region 6 with (go_at_call 16; (with_reducible refine (HS.out).mono ?_); rintro e w2 ⟨he, hf, A2, n2, A3, n3, hm⟩; rw [step3a] at he hm; obtain rfl : e = .returned (.tuple #[.agg #[.int .i64 1, .bool false, .int .i64 0], .int .i64 0]) := he; replace HBW := Aside0.mk (HBW.out.trans ((hf.xcW HX.out.xbY (fun k hk => (HX.out.hF k hk).1)))); have HM := Aside0.mk hm; clear hf hm)
 clear HS HN HX
 have BP := Aside0.mk (xbB w2 (.cells #[.int .i64 1, .bool false, .int .i64 0] 43))
 have HP : Aside0 (∀ k, Gr (fun k => k = gn) w1.heap.size w2.heap.size k → k ≠ w2.heap.size) := ⟨fun k hk => by have := (HM.out.hF k hk).2; omega⟩
 replace HM := Aside0.mk (HM.out.alloc (.cells #[.int .i64 1, .bool false, .int .i64 0] 43))
 replace HBW := Aside0.mk (xaC HBW.out (.cells #[.int .i64 1, .bool false, .int .i64 0] 43))
 generalize w2.heap.size = gp at BP HP HM ⊢
 generalize w2.alloc (.cells #[.int .i64 1, .bool false, .int .i64 0] 43) = w3 at BP HM HBW ⊢
 generalize Gr (fun k => k = gn) w1.heap.size gp = F at HP HM
 have hsz : Calls Tryz.prog 21 #[.pointer (some ⟨gn, 0, none⟩)] w3 fun e w' => e = .returned (.tuple #[.int .i64 0, .int .i64 1]) ∧ ∃ k, w' = w3.drewN k := size_ok HM.out
 have HSZ := Aside0.mk hsz;clear hsz
 go_upto_region 7 with (go_at_call 21; (with_reducible refine (HSZ.out).mono ?_); rintro e w' ⟨rfl, nk, rfl⟩)
 clear HSZ
 replace BP := Aside0.mk (xaH BP.out nk)
 replace HM := Aside0.mk (HM.out.drewN nk)
 replace HBW := Aside0.mk (xaJ HBW.out nk)
 generalize w3.drewN nk = w4 at BP HM HBW ⊢
 have hfl : Calls Tryz.prog 17 #[.pointer (some ⟨gn, 0, none⟩)] w4 fun e w' => ∃ A c, e = .returned (.tuple #[.slice A 0 c, .int .i64 190]) ∧ Sl k48 48 w' w4.heap.size (fun _ => True) A c [] ∧ Below w4.heap.size w4 w' := flows_ok HM.out (by decide)
 have HFL := Aside0.mk hfl;clear hfl
 go_upto_region 8 with (go_at_call 17; (with_reducible refine (HFL.out).mono ?_); rintro e w5 ⟨Af, cf, rfl, _, hb⟩; replace BP := Aside0.mk (xaK BP.out hb); replace HM := Aside0.mk (HM.out.below hb); replace HBW := Aside0.mk (HBW.out.trans (hb.mono HBW.out.size)); clear hb)
 clear HFL
 have HS := Aside0.mk (step_ok (fxs := fixF) HM.out good3 inv1 5 (by omega))
 go_upto_region 9 with (go_at_call 16; (with_reducible refine (HS.out).mono ?_); rintro e w6 ⟨he, hf, _, _, _, _, _⟩; rw [step3b] at he; obtain rfl : e = .returned (.tuple #[.agg #[.int .i64 2, .bool true, .int .i64 0], .int .i64 0]) := he; replace HBW := Aside0.mk (HBW.out.trans ((hf.xcW HM.out.xbY (fun k hk => (HM.out.hF k hk).1)))); replace BP := Aside0.mk (hf.blk BP.out (fun h => HP.out _ h rfl)); clear hf)
 clear HS HM HP
 have BQ := Aside0.mk (xbB w6 (.cells #[.int .i64 2, .bool true, .int .i64 0] 43))
 replace BP := Aside0.mk (xaE BP.out (.cells #[.int .i64 2, .bool true, .int .i64 0] 43))
 replace HBW := Aside0.mk (xaC HBW.out (.cells #[.int .i64 2, .bool true, .int .i64 0] 43))
 generalize w6.heap.size = gq at BQ ⊢
 generalize w6.alloc (.cells #[.int .i64 2, .bool true, .int .i64 0] 43) = w7 at BP BQ HBW ⊢
 have hr := run_ok (l := l3) (ck := (0, 0)) (A := some ⟨gb, 0, none⟩) (c := 3) (HKW.out.below HBW.out) fixF (Kd.xbP HR.out HBW.out) ck3 (fun _ => good3)
 rw [run3] at hr
 have hr' : Calls Tryz.prog 10 #[.slice (some ⟨gb, 0, none⟩) 3 3] w7 fun e w' => ∃ A1 c1, e = .returned (.tuple #[.slice A1 1 c1, .int .i64 0]) ∧ Sl k48 48 w' w7.heap.size (fun _ => True) A1 c1 [⟨9, 4611686018427387904, 1⟩] ∧ Below w7.heap.size w7 w' := hr
 have HRN := Aside0.mk hr';clear hr hr'
 go_upto_region 10 with (go_at_call 10; (with_reducible refine (HRN.out).mono ?_); rintro e w8 ⟨A1, c1, rfl, hs, hb⟩; have HRW := Aside0.mk hs.C; replace BP := Aside0.mk (xaK BP.out hb); replace BQ := Aside0.mk (xaK BQ.out hb); replace HBW := Aside0.mk (HBW.out.trans (hb.mono HBW.out.size)); clear hb hs)
 clear HRN
 obtain ⟨ad, e, h0, h1, h2⟩ := at_T48 HRW.out 0 (by omega) (by decide)
 subst e
 simp only [rd_T48, Int.toNat_zero, List.getD_cons_zero, Nat.zero_mul, Addr.add, Nat.add_zero, if_true] at h0 h1 h2
 obtain ⟨p0, p1, p2, y0, y1, y2⟩ := blk3 BP
 obtain ⟨q0, q1, q2, z0, z1, z2⟩ := blk3 BQ
 go_wp2_with fail
 go_ret
 exact ⟨rfl, HB.out.trans (HBW.out.mono HB.out.size)⟩
end Go.Proofs.YtkabcgmegljebaaGreatDoor.H
namespace Go.Proofs.YtkabcgmegljebaaGreatDoor.Q
open Go.RowKit Go.Proofs.YtkabcgmegljebaaGreatDoorW.PrintWords Go.Proofs.YtkabcgmegljebaaGreatDoorW.PrintLast Go.Proofs.YtkabcgmegljebaaGreatDoorW.PrintMore
attribute [local go_sem] xcP xcM xcY xcX xcF xcE xcN xcL
def xbH.l0 : Nat → List (S48) → List (S79) → Int → Option ((List (S79)))
  | 0, _, _, _ => none
  | k + 1, x0, x3, x4 => if x4 < (x0.length : Int) then (if 0 ≤ x4 then ((xeA.f ((rd_T48 x0 x4).f1)).bind fun t848 => (if x3.length < 5864062014805 then (xbH.l0 k x0 (x3 ++ [(⟨(rd_T48 x0 x4).f0, t848, (rd_T48 x0 x4).f2⟩ : S79)]) (wrap64 (x4 + 1))) else (none))) else (none)) else (some x3)
def xbH.f (k : Nat) (l0 : List (S48)) : Option ((List (S79))) := xbH.l0 k l0 ([] : List (S79)) 0
def xbH.T5 : Bool × List (List Nat × List Nat) := (true, [([], []), ([], []), ([], []), ([1, 2], [1, 2]), ([3], [3]), ([4], [4]), ([], []), ([], []), ([6, 7], [6, 7]), ([8], [8]), ([9], [9]), ([10], [10]), ([], []), ([], []), ([12, 13], [12, 13]), ([14], [14]), ([15], [15]), ([5, 11, 16], [5, 11, 16]), ([17], [17]), ([0, 18, 11], [0, 18]), ([19, 19, 0, 1, 2, 3, 4, 5, 6, 7, 8, 9, 10, 11, 12, 13, 14, 15, 16, 17, 18, 19], [0, 19])])
def xbH.B5 : List Nat := [0, 0, 0, 6, 14, 30, 0, 0, 192, 448, 960, 1984, 0, 0, 12288, 28672, 61440, 131070, 262142, 524287, 1048575]
theorem xbH.tab5 : rtab .any (opsOf Tryz.f25 5) = xbH.T5 := by kernel_rfl
theorem xbH.bits5 : xgL xbH.T5.2 xbH.B5 = true := by kernel_rfl
theorem xbH.calls (k : Nat) (A0 : Option Addr) (c0 : Nat) (l0 : List (S48)) (r : List (S79)) (w : World) (hr0 : Kd.C k48 w A0 l0.length l0) (hc0 : l0.length ≤ c0) (h : xbH.f k l0 = some r) :
  Calls Tryz.prog 25 #[.slice A0 l0.length c0] w fun e w' => ∃ v0_ : Value, e = .returned (v0_) ∧ Kd.R k79 79 w' w.heap.size (fun _ => True) v0_ r ∧ Below w.heap.size w w' := by
 have hu79 := Tryz.underlying79;have HR0 := Aside0.mk hr0;have HC0 := Aside0.mk hc0;clear hr0 hc0
 have HB := Aside0.mk (Below.refl w.heap.size w)
 have H : (xbH.l0 k l0 ([] : List (S79)) 0) = some r := h
 clear h;have H' := Aside0.mk H;clear H
 go_enter Tryz.func25, Tryz.ntmps25
 go_wp2
 go_loopg [3, 4] k (fun kq v3 v4 w' => ∃ (x3_1 : List (S79)) (x4_1 : Int), v4 = .int .i64 x4_1 ∧ Aside0 (xbH.l0 kq l0 x3_1 x4_1 = some r) ∧ Aside0 (kq ≤ k) ∧ Aside0 (Kd.R k79 79 w' w.heap.size (fun _ => True) v3 x3_1) ∧ Aside0 (Below w.heap.size w w'))
 case atStart => exact ⟨(([] : List (S79))), (0), eS, H', ⟨Nat.le_refl _⟩, ⟨by first | exact Kd.R_nil _ _ _ _ _ | exact Kd.N_nil _ _ _ _ _ | exact Kd.V_nil _ _ _ _ _ | exact Kd.Q_nil _ _ _ _ _ | exact Kd.S_nil _ _ _ _ _⟩, ⟨bB⟩⟩
 case round =>
  clear H'
  obtain ⟨x3_1, x4_1, rfl, HA, HK1, HO_3, HB⟩ := hrel
  cases gk with
  | zero => exact absurd HA.out (by simp [xbH.l0])
  | succ k1 =>
   have H := HA.out;clear HA
   simp only [xbH.l0] at H
   by_cases c2 : x4_1 < (l0.length : Int)
   ·
    rw [if_pos c2] at H
    have c2b0 : decide (x4_1 < (l0.length : Int)) = true := decide_eq_true c2
    clear c2
    by_cases c3 : 0 ≤ x4_1
    ·
     rw [if_pos c3] at H
     have c3b0 : decide (0 ≤ x4_1) = true := decide_eq_true c3
     clear c3;replace H := Option.bind_eq_some_iff.mp H
     obtain ⟨t848, A40, H⟩ := H
     replace H : (if x3_1.length < 5864062014805 then (xbH.l0 k1 l0 (x3_1 ++ [(⟨(rd_T48 l0 x4_1).f0, t848, (rd_T48 l0 x4_1).f2⟩ : S79)]) (wrap64 (x4_1 + 1))) else (none)) = some r := H
     have A4 := Aside0.mk A40;clear A40
     by_cases c5 : x3_1.length < 5864062014805
     ·
      rw [if_pos c5] at H
      have LMc5 := Aside0.mk c5;clear c5
      obtain ⟨y850, hy850⟩ : ∃ y_ : List (S79), y_ = (x3_1 ++ [(⟨(rd_T48 l0 x4_1).f0, t848, (rd_T48 l0 x4_1).f2⟩ : S79)]) := ⟨_, rfl⟩
      replace H : (xbH.l0 k1 l0 y850 (wrap64 (x4_1 + 1))) = some r := by first | (rw [hy850]; with_reducible exact H) | (have H2_ := (Option.bind_some _ _).symm.trans H; rw [hy850]; with_reducible exact H2_) | (have H2_ := (Option.bind_some _ _).symm.trans H; with_reducible exact H2_) | with_reducible exact H | (rw [hy850]; exact H) | exact H
      have Ny850 := Aside0.mk hy850;clear hy850;have H' := Aside0.mk H;clear H
      try go_wp2
      replace HO_3 := Aside0.mk (Kd.R_drew HO_3.out)
      replace HB := Aside0.mk (xaM HB.out)
      have p846 : 0 ≤ (x4_1 : Int) := of_decide_eq_true tA
      have q846 : x4_1 < (l0.length : Int) := of_decide_eq_true tA
      obtain ⟨ad846, e846, hx846_0, hx846_1, hx846_2⟩ := at_T48 HR0.out x4_1 p846 q846
      have hw846_2 := hx846_2;have hw846_1 := hx846_1;have hw846_0 := hx846_0
      cases e846
      replace hx846_0 := (HB.out.cell (World.block_lt_of_cell? w _ hx846_0)).trans hx846_0
      replace hx846_1 := (HB.out.cell (World.block_lt_of_cell? w _ hx846_1)).trans hx846_1
      replace hx846_2 := (HB.out.cell (World.block_lt_of_cell? w _ hx846_2)).trans hx846_2
      replace p846 := eq_true p846;replace q846 := eq_true q846
      have p847 : 0 ≤ (x4_1 : Int) := of_decide_eq_true tA
      have q847 : x4_1 < (l0.length : Int) := of_decide_eq_true tA
      obtain ⟨ad847, e847, hx847_0, hx847_1, hx847_2⟩ := at_T48 HR0.out x4_1 p847 q847
      have hw847_2 := hx847_2;have hw847_1 := hx847_1;have hw847_0 := hx847_0
      obtain rfl : ad846 = ad847 := (by injection e847)
      replace hx847_0 := (HB.out.cell (World.block_lt_of_cell? w _ hx847_0)).trans hx847_0
      replace hx847_1 := (HB.out.cell (World.block_lt_of_cell? w _ hx847_1)).trans hx847_1
      replace hx847_2 := (HB.out.cell (World.block_lt_of_cell? w _ hx847_2)).trans hx847_2
      replace p847 := eq_true p847;replace q847 := eq_true q847
      have p849 : 0 ≤ (x4_1 : Int) := of_decide_eq_true tA
      have q849 : x4_1 < (l0.length : Int) := of_decide_eq_true tA
      obtain ⟨ad849, e849, hx849_0, hx849_1, hx849_2⟩ := at_T48 HR0.out x4_1 p849 q849
      have hw849_2 := hx849_2;have hw849_1 := hx849_1;have hw849_0 := hx849_0
      obtain rfl : ad846 = ad849 := (by injection e849)
      replace hx849_0 := (HB.out.cell (World.block_lt_of_cell? w _ hx849_0)).trans hx849_0
      replace hx849_1 := (HB.out.cell (World.block_lt_of_cell? w _ hx849_1)).trans hx849_1
      replace hx849_2 := (HB.out.cell (World.block_lt_of_cell? w _ hx849_2)).trans hx849_2
      replace p849 := eq_true p849;replace q849 := eq_true q849
      refine start_ (n := 21) (S := fun w' => w'.cell? (ad846.add ((x4_1).toNat * 3)) = some (.int .i64 ((rd_T48 l0 x4_1).f0)) ∧ w'.cell? ⟨(ad846.add ((x4_1).toNat * 3)).block, (ad846.add ((x4_1).toNat * 3)).off + 1, none⟩ = some (.float .f64 ((rd_T48 l0 x4_1).f1)) ∧ w'.cell? ⟨(ad846.add ((x4_1).toNat * 3)).block, (ad846.add ((x4_1).toNat * 3)).off + 2, none⟩ = some (.int .i64 ((rd_T48 l0 x4_1).f2)) ∧ w'.cell? (ad846.add ((x4_1).toNat * 3)) = some (.int .i64 ((rd_T48 l0 x4_1).f0)) ∧ w'.cell? ⟨(ad846.add ((x4_1).toNat * 3)).block, (ad846.add ((x4_1).toNat * 3)).off + 1, none⟩ = some (.float .f64 ((rd_T48 l0 x4_1).f1)) ∧ w'.cell? ⟨(ad846.add ((x4_1).toNat * 3)).block, (ad846.add ((x4_1).toNat * 3)).off + 2, none⟩ = some (.int .i64 ((rd_T48 l0 x4_1).f2)) ∧ w'.cell? (ad846.add ((x4_1).toNat * 3)) = some (.int .i64 ((rd_T48 l0 x4_1).f0)) ∧ w'.cell? ⟨(ad846.add ((x4_1).toNat * 3)).block, (ad846.add ((x4_1).toNat * 3)).off + 1, none⟩ = some (.float .f64 ((rd_T48 l0 x4_1).f1)) ∧ w'.cell? ⟨(ad846.add ((x4_1).toNat * 3)).block, (ad846.add ((x4_1).toNat * 3)).off + 2, none⟩ = some (.int .i64 ((rd_T48 l0 x4_1).f2))) (ds := []) #[false, false, false, false, false, false, false, false, false, false, false, false, false, false, false, false, false, false, false, false, false] (by kernel_rfl) rfl rfl ⟨((HB.out.cell (World.block_lt_of_cell? w _ hw846_0)).trans hw846_0), ((HB.out.cell (World.block_lt_of_cell? w _ hw846_1)).trans hw846_1), ((HB.out.cell (World.block_lt_of_cell? w _ hw846_2)).trans hw846_2), ((HB.out.cell (World.block_lt_of_cell? w _ hw847_0)).trans hw847_0), ((HB.out.cell (World.block_lt_of_cell? w _ hw847_1)).trans hw847_1), ((HB.out.cell (World.block_lt_of_cell? w _ hw847_2)).trans hw847_2), ((HB.out.cell (World.block_lt_of_cell? w _ hw849_0)).trans hw849_0), ((HB.out.cell (World.block_lt_of_cell? w _ hw849_1)).trans hw849_1), ((HB.out.cell (World.block_lt_of_cell? w _ hw849_2)).trans hw849_2)⟩ (fun hHeld => ?_); refine xeP xbH.tab5 xbH.bits5 (fun HT_ HW_ => ?_)
      generalize wr.drew = w6 at HO_3 HB hx846_0 hx846_1 hx846_2 hx847_0 hx847_1 hx847_2 hx849_0 hx849_1 hx849_2 hHeld ⊢
      refine pure_ (i := 0) (N := some 11) (v := ?_) (a' := ?_) #[true, false, false, false, false, false, false, false, false, false, false, false, false, false, false, false, false, false, false, false, false] rfl rfl (any_of HT_.out (by kernel_rfl)) (fun _ _ _ h => h) (Or.inl ⟨by rfl, ?_⟩) ?_ ?_
      rotate_left
      ·
       intro w'
       go_simp
       with_reducible rfl
      rotate_left
      ·
       simp only [Act.put, List.setIfInBounds_toArray, List.set_cons_zero, List.set_cons_succ, i64_w, i32_w]
       rfl
      refine pure_ (i := 1) (N := some 12) (v := ?_) (a' := ?_) #[true, true, false, false, false, false, false, false, false, false, false, false, false, false, false, false, false, false, false, false, false] rfl rfl (any_of HT_.out (by kernel_rfl)) (fun _ _ _ h => h) (Or.inl ⟨by rfl, ?_⟩) ?_ ?_
      rotate_left
      ·
       intro w'
       go_simp
       with_reducible rfl
      rotate_left
      ·
       simp only [Act.put, List.setIfInBounds_toArray, List.set_cons_zero, List.set_cons_succ, i64_w, i32_w]
       rfl
      refine pure_ (i := 2) (N := some 13) (v := ?_) (a' := ?_) #[true, true, true, false, false, false, false, false, false, false, false, false, false, false, false, false, false, false, false, false, false] rfl rfl (any_of HT_.out (by kernel_rfl)) (fun _ _ _ h => h) (Or.inl ⟨by rfl, ?_⟩) ?_ ?_
      rotate_left
      ·
       intro w'
       go_simp
       with_reducible rfl
      rotate_left
      ·
       simp only [Act.put, List.setIfInBounds_toArray, List.set_cons_zero, List.set_cons_succ, i64_w, i32_w]
       rfl
      refine pure_ (i := 3) (N := some 14) (v := ?_) (a' := ?_) #[true, true, true, true, false, false, false, false, false, false, false, false, false, false, false, false, false, false, false, false, false] rfl rfl (any_of HT_.out (by kernel_rfl)) (fun _ _ _ h => h) (Or.inl ⟨by rfl, ?_⟩) ?_ ?_
      rotate_left
      ·
       intro w'
       go_simp
       with_reducible rfl
      rotate_left
      ·
       simp only [Act.put, List.setIfInBounds_toArray, List.set_cons_zero, List.set_cons_succ, i64_w, i32_w]
       rfl
      refine pure_ (i := 4) (N := some 15) (v := ?_) (a' := ?_) #[true, true, true, true, true, false, false, false, false, false, false, false, false, false, false, false, false, false, false, false, false] rfl rfl (any_of HT_.out (by kernel_rfl)) (fun _ _ _ h => h) (Or.inl ⟨by rfl, ?_⟩) ?_ ?_
      rotate_left
      ·
       intro w'
       go_simp
       with_reducible rfl
      rotate_left
      ·
       simp only [Act.put, List.setIfInBounds_toArray, List.set_cons_zero, List.set_cons_succ, i64_w, i32_w]
       rfl
      refine pure_ (i := 6) (N := some 17) (v := ?_) (a' := ?_) #[true, true, true, true, true, false, true, false, false, false, false, false, false, false, false, false, false, false, false, false, false] rfl rfl (any_of HT_.out (by kernel_rfl)) (fun _ _ _ h => h) (Or.inl ⟨by rfl, ?_⟩) ?_ ?_
      rotate_left
      ·
       intro w'
       go_simp
       with_reducible rfl
      rotate_left
      ·
       simp only [Act.put, List.setIfInBounds_toArray, List.set_cons_zero, List.set_cons_succ, i64_w, i32_w]
       rfl
      refine pure_ (i := 7) (N := some 18) (v := ?_) (a' := ?_) #[true, true, true, true, true, false, true, true, false, false, false, false, false, false, false, false, false, false, false, false, false] rfl rfl (any_of HT_.out (by kernel_rfl)) (fun _ _ _ h => h) (Or.inl ⟨by rfl, ?_⟩) ?_ ?_
      rotate_left
      ·
       intro w'
       go_simp
       with_reducible rfl
      rotate_left
      ·
       simp only [Act.put, List.setIfInBounds_toArray, List.set_cons_zero, List.set_cons_succ, i64_w, i32_w]
       rfl
      refine pure_ (i := 8) (N := some 19) (v := ?_) (a' := ?_) #[true, true, true, true, true, false, true, true, true, false, false, false, false, false, false, false, false, false, false, false, false] rfl rfl (any_of HT_.out (by kernel_rfl)) (fun _ _ _ h => h) (Or.inl ⟨by rfl, ?_⟩) ?_ ?_
      rotate_left
      ·
       intro w'
       go_simp
       with_reducible rfl
      rotate_left
      ·
       simp only [Act.put, List.setIfInBounds_toArray, List.set_cons_zero, List.set_cons_succ, i64_w, i32_w]
       rfl
      refine pure_ (i := 9) (N := some 20) (v := ?_) (a' := ?_) #[true, true, true, true, true, false, true, true, true, true, false, false, false, false, false, false, false, false, false, false, false] rfl rfl (any_of HT_.out (by kernel_rfl)) (fun _ _ _ h => h) (Or.inl ⟨by rfl, ?_⟩) ?_ ?_
      rotate_left
      ·
       intro w'
       go_simp
       with_reducible rfl
      rotate_left
      ·
       simp only [Act.put, List.setIfInBounds_toArray, List.set_cons_zero, List.set_cons_succ, i64_w, i32_w]
       rfl
      refine pure_ (i := 12) (N := some 23) (v := ?_) (a' := ?_) #[true, true, true, true, true, false, true, true, true, true, false, false, true, false, false, false, false, false, false, false, false] rfl rfl (any_of HT_.out (by kernel_rfl)) (fun _ _ _ h => h) (Or.inl ⟨by rfl, ?_⟩) ?_ ?_
      rotate_left
      ·
       intro w'
       go_simp
       with_reducible rfl
      rotate_left
      ·
       simp only [Act.put, List.setIfInBounds_toArray, List.set_cons_zero, List.set_cons_succ, i64_w, i32_w]
       rfl
      refine pure_ (i := 13) (N := some 24) (v := ?_) (a' := ?_) #[true, true, true, true, true, false, true, true, true, true, false, false, true, true, false, false, false, false, false, false, false] rfl rfl (any_of HT_.out (by kernel_rfl)) (fun _ _ _ h => h) (Or.inl ⟨by rfl, ?_⟩) ?_ ?_
      rotate_left
      ·
       intro w'
       go_simp
       with_reducible rfl
      rotate_left
      ·
       simp only [Act.put, List.setIfInBounds_toArray, List.set_cons_zero, List.set_cons_succ, i64_w, i32_w]
       rfl
      refine pure_ (i := 14) (N := some 25) (v := ?_) (a' := ?_) #[true, true, true, true, true, false, true, true, true, true, false, false, true, true, true, false, false, false, false, false, false] rfl rfl (any_of HT_.out (by kernel_rfl)) (fun _ _ _ h => h) (Or.inl ⟨by rfl, ?_⟩) ?_ ?_
      rotate_left
      ·
       intro w'
       go_simp
       with_reducible rfl
      rotate_left
      ·
       simp only [Act.put, List.setIfInBounds_toArray, List.set_cons_zero, List.set_cons_succ, i64_w, i32_w]
       rfl
      refine pure_ (i := 15) (N := some 26) (v := ?_) (a' := ?_) #[true, true, true, true, true, false, true, true, true, true, false, false, true, true, true, true, false, false, false, false, false] rfl rfl (any_of HT_.out (by kernel_rfl)) (fun _ _ _ h => h) (Or.inl ⟨by rfl, ?_⟩) ?_ ?_
      rotate_left
      ·
       intro w'
       go_simp
       with_reducible rfl
      rotate_left
      ·
       simp only [Act.put, List.setIfInBounds_toArray, List.set_cons_zero, List.set_cons_succ, i64_w, i32_w]
       rfl
      refine take_ (i := 5) (N := some 16) (v := ?_) (a' := ?_) #[true, true, true, true, true, true, true, true, true, true, false, false, true, true, true, true, false, false, false, false, false] rfl rfl (xdF HT_.out HW_.out (by kernel_rfl)) (fun _ _ _ h => h) (Or.inl ⟨by rfl, ?_⟩) hHeld ?_ ?_
      rotate_left
      ·
       rintro w' ⟨s0, s1, s2, s3, s4, s5, s6, s7, s8⟩
       go_simp
       with_reducible rfl
      rotate_left
      ·
       simp only [Act.put, List.setIfInBounds_toArray, List.set_cons_zero, List.set_cons_succ, i64_w, i32_w]
       rfl
      refine take_ (i := 10) (N := some 21) (v := ?_) (a' := ?_) #[true, true, true, true, true, true, true, true, true, true, true, false, true, true, true, true, false, false, false, false, false] rfl rfl (xdF HT_.out HW_.out (by kernel_rfl)) (fun _ _ _ h => h) (Or.inl ⟨by rfl, ?_⟩) hHeld ?_ ?_
      rotate_left
      ·
       rintro w' ⟨s0, s1, s2, s3, s4, s5, s6, s7, s8⟩
       go_simp
       with_reducible rfl
      rotate_left
      ·
       simp only [Act.put, List.setIfInBounds_toArray, List.set_cons_zero, List.set_cons_succ, i64_w, i32_w]
       rfl
      refine take_ (i := 16) (N := some 27) (v := ?_) (a' := ?_) #[true, true, true, true, true, true, true, true, true, true, true, false, true, true, true, true, true, false, false, false, false] rfl rfl (xdF HT_.out HW_.out (by kernel_rfl)) (fun _ _ _ h => h) (Or.inl ⟨by rfl, ?_⟩) hHeld ?_ ?_
      rotate_left
      ·
       rintro w' ⟨s0, s1, s2, s3, s4, s5, s6, s7, s8⟩
       go_simp
       with_reducible rfl
      rotate_left
      ·
       simp only [Act.put, List.setIfInBounds_toArray, List.set_cons_zero, List.set_cons_succ, i64_w, i32_w]
       rfl
      refine one_ (i := 11) (N := some 22) #[true, true, true, true, true, true, true, true, true, true, true, true, true, true, true, true, true, false, false, false, false] rfl rfl (one_of HT_.out (by kernel_rfl)) (by decide) (fun K hK => ?_)
      refine goes_ Tryz.func29 (by kernel_rfl) rfl #[.float .f64 ((rd_T48 l0 x4_1).f1)] (by rfl) rfl rfl (by (try simp only [List.map_toArray, List.map_cons, List.map_nil]); first | done | rfl | (simp only [List.length_drop, List.length_take]; rfl)) ?_
      with_reducible refine (xeA.calls ((rd_T48 l0 x4_1).f1) t848 _ A4.out).mono ?_
      rintro e w' ⟨rfl, ⟨nd, rfl⟩⟩
      refine ⟨_, rfl, ?_⟩
      refine hK.out _ _ ⟨((HB.out.cell (World.block_lt_of_cell? w _ hw846_0)).trans hw846_0), ((HB.out.cell (World.block_lt_of_cell? w _ hw846_1)).trans hw846_1), ((HB.out.cell (World.block_lt_of_cell? w _ hw846_2)).trans hw846_2), ((HB.out.cell (World.block_lt_of_cell? w _ hw847_0)).trans hw847_0), ((HB.out.cell (World.block_lt_of_cell? w _ hw847_1)).trans hw847_1), ((HB.out.cell (World.block_lt_of_cell? w _ hw847_2)).trans hw847_2), ((HB.out.cell (World.block_lt_of_cell? w _ hw849_0)).trans hw849_0), ((HB.out.cell (World.block_lt_of_cell? w _ hw849_1)).trans hw849_1), ((HB.out.cell (World.block_lt_of_cell? w _ hw849_2)).trans hw849_2)⟩ (fun hHeld => ?_)
      clear hK K
      refine norm_ (a' := ?_) ?_ ?_
      rotate_left
      ·
       show Act.put _ (some 22) _ = _
       simp only [Act.put, List.setIfInBounds_toArray, List.set_cons_zero, List.set_cons_succ, i64_w, i32_w]
       rfl
      refine pure_ (i := 17) (N := some 28) (v := ?_) (a' := ?_) #[true, true, true, true, true, true, true, true, true, true, true, true, true, true, true, true, true, true, false, false, false] rfl rfl (any_of HT_.out (by kernel_rfl)) (fun _ _ _ h => h) (Or.inl ⟨by rfl, ?_⟩) ?_ ?_
      rotate_left
      ·
       intro w'
       go_simp
       with_reducible rfl
      rotate_left
      ·
       simp only [Act.put, List.setIfInBounds_toArray, List.set_cons_zero, List.set_cons_succ, i64_w, i32_w]
       rfl
      refine one_ (i := 18) (N := some 29) #[true, true, true, true, true, true, true, true, true, true, true, true, true, true, true, true, true, true, true, false, false] rfl rfl (one_of HT_.out (by kernel_rfl)) (by decide) (fun K hK => ?_)
      refine value_ (w1 := ?_) (v := ?_) (by rfl) rfl ?_ ?_
      rotate_left 2
      ·
       go_simp
       constructor
       ·
        rfl
       ·
        rfl
      refine hK.out _ _ ⟨(World.cell?_alloc_lt _ _ _ (World.block_lt_of_cell? _ _ (((HB.out.cell (World.block_lt_of_cell? w _ hw846_0)).trans hw846_0)))).trans (((HB.out.cell (World.block_lt_of_cell? w _ hw846_0)).trans hw846_0)), (World.cell?_alloc_lt _ _ _ (World.block_lt_of_cell? _ _ (((HB.out.cell (World.block_lt_of_cell? w _ hw846_1)).trans hw846_1)))).trans (((HB.out.cell (World.block_lt_of_cell? w _ hw846_1)).trans hw846_1)), (World.cell?_alloc_lt _ _ _ (World.block_lt_of_cell? _ _ (((HB.out.cell (World.block_lt_of_cell? w _ hw846_2)).trans hw846_2)))).trans (((HB.out.cell (World.block_lt_of_cell? w _ hw846_2)).trans hw846_2)), (World.cell?_alloc_lt _ _ _ (World.block_lt_of_cell? _ _ (((HB.out.cell (World.block_lt_of_cell? w _ hw847_0)).trans hw847_0)))).trans (((HB.out.cell (World.block_lt_of_cell? w _ hw847_0)).trans hw847_0)), (World.cell?_alloc_lt _ _ _ (World.block_lt_of_cell? _ _ (((HB.out.cell (World.block_lt_of_cell? w _ hw847_1)).trans hw847_1)))).trans (((HB.out.cell (World.block_lt_of_cell? w _ hw847_1)).trans hw847_1)), (World.cell?_alloc_lt _ _ _ (World.block_lt_of_cell? _ _ (((HB.out.cell (World.block_lt_of_cell? w _ hw847_2)).trans hw847_2)))).trans (((HB.out.cell (World.block_lt_of_cell? w _ hw847_2)).trans hw847_2)), (World.cell?_alloc_lt _ _ _ (World.block_lt_of_cell? _ _ (((HB.out.cell (World.block_lt_of_cell? w _ hw849_0)).trans hw849_0)))).trans (((HB.out.cell (World.block_lt_of_cell? w _ hw849_0)).trans hw849_0)), (World.cell?_alloc_lt _ _ _ (World.block_lt_of_cell? _ _ (((HB.out.cell (World.block_lt_of_cell? w _ hw849_1)).trans hw849_1)))).trans (((HB.out.cell (World.block_lt_of_cell? w _ hw849_1)).trans hw849_1)), (World.cell?_alloc_lt _ _ _ (World.block_lt_of_cell? _ _ (((HB.out.cell (World.block_lt_of_cell? w _ hw849_2)).trans hw849_2)))).trans (((HB.out.cell (World.block_lt_of_cell? w _ hw849_2)).trans hw849_2))⟩ (fun hHeld => ?_)
      clear hK K
      refine norm_ (a' := ?_) ?_ ?_
      rotate_left
      ·
       show Act.put _ (some 29) _ = _
       simp only [Act.put, List.setIfInBounds_toArray, List.set_cons_zero, List.set_cons_succ, i64_w, i32_w]
       rfl
      refine one_ (i := 19) (N := some 30) #[true, true, true, true, true, true, true, true, true, true, true, true, true, true, true, true, true, true, true, true, false] rfl rfl (one_of HT_.out (by kernel_rfl)) (by decide) (fun K hK => ?_)
      refine Kd.R_append_step k79 (w0 := w) w.heap.size (by rfl) (.tmp 11) (.tmp 29) 28 79 (.agg #[(.int .i64 0), (.int .u64 0), (.int .i64 0)]) 24 rfl Tryz.underlying28 info79 rfl (by decide) (by omega) u3 x3_1 (⟨(rd_T48 l0 x4_1).f0, t848, (rd_T48 l0 x4_1).f2⟩ : S79) [.int .i64 ((rd_T48 l0 x4_1).f0), .int .u64 t848, .int .i64 ((rd_T48 l0 x4_1).f2)] (fun _ => True) (fun _ => False) rfl rfl ?aP (fun _ hk => hk.elim) ?aF ?aO ?aB ?aS ?aL ?_
      (case aP => exact k79_mkM _ _ _ (⟨(rd_T48 l0 x4_1).f0, t848, (rd_T48 l0 x4_1).f2⟩ : S79))
      (case aB => exact bB)
      (case aF => exact (fun _ _ => trivial))
      (case aO => exact (bR HO_3))
      (case aS => exact (xbG bB))
      (case aL => have := LMc5.out; omega)
      intro v851 w7 ho hb hg hat
      rw [← Ny850.out] at ho
      replace HB := Aside0.mk (hb)
      have HO852 := Aside0.mk (ho)
      clear HO_3
      clear ho hb hg hat
      refine hK.out _ _ ⟨((HB.out.cell (World.block_lt_of_cell? w _ hw846_0)).trans hw846_0), ((HB.out.cell (World.block_lt_of_cell? w _ hw846_1)).trans hw846_1), ((HB.out.cell (World.block_lt_of_cell? w _ hw846_2)).trans hw846_2), ((HB.out.cell (World.block_lt_of_cell? w _ hw847_0)).trans hw847_0), ((HB.out.cell (World.block_lt_of_cell? w _ hw847_1)).trans hw847_1), ((HB.out.cell (World.block_lt_of_cell? w _ hw847_2)).trans hw847_2), ((HB.out.cell (World.block_lt_of_cell? w _ hw849_0)).trans hw849_0), ((HB.out.cell (World.block_lt_of_cell? w _ hw849_1)).trans hw849_1), ((HB.out.cell (World.block_lt_of_cell? w _ hw849_2)).trans hw849_2)⟩ (fun hHeld => ?_)
      clear hK K
      refine norm_ (a' := ?_) ?_ ?_
      rotate_left
      ·
       show Act.put _ (some 30) _ = _
       simp only [Act.put, List.setIfInBounds_toArray, List.set_cons_zero, List.set_cons_succ, i64_w, i32_w]
       rfl
      refine pure_ (i := 20) (N := some 3) (v := ?_) (a' := ?_) #[true, true, true, true, true, true, true, true, true, true, true, true, true, true, true, true, true, true, true, true, true] rfl rfl (any_of HT_.out (by kernel_rfl)) (fun _ _ _ h => h) (Or.inl ⟨by rfl, ?_⟩) ?_ ?_
      rotate_left
      ·
       intro w'
       go_simp
       with_reducible rfl
      rotate_left
      ·
       simp only [Act.put, List.setIfInBounds_toArray, List.set_cons_zero, List.set_cons_succ, i64_w, i32_w]
       rfl
      refine done_ (xgX HT_.out (by kernel_rfl)) ?_
      try go_wp2
      go_roundg k1
      case measure => have := HK1.out; omega
      case rel => exact ⟨(y850), (wrap64 (x4_1 + 1)), eS, H', ⟨by have := HK1.out; omega⟩, ⟨(bR HO852)⟩, ⟨bB⟩⟩
     ·
      rw [if_neg c5] at H
      exact absurd H (by simp)
    ·
     rw [if_neg c3] at H
     exact absurd H (by simp)
   ·
    rw [if_neg c2] at H
    have c2b0 : decide (x4_1 < (l0.length : Int)) = false := decide_eq_false c2
    clear c2
    obtain rfl := Option.some.inj H
    go_wp2
    go_ret
    exact ⟨_, eW, (bR HO_3), bB⟩
-- NOT PRINTED: function 6 (tenorlaw19_VmCuts)
-- NOT PRINTED: function 41 (api_Op_41)
-- NOT PRINTED: function 42 (code_laid)
-- NOT PRINTED: function 68 (code_idle)
-- NOT PRINTED: function 43 (code_trimmed)
-- NOT PRINTED: function 44 (code_pieces)
-- NOT PRINTED: function 26 (code_Trim)
-- NOT PRINTED: function 7 (tenorlaw19_VmTrims)
end Go.Proofs.YtkabcgmegljebaaGreatDoor.Q
