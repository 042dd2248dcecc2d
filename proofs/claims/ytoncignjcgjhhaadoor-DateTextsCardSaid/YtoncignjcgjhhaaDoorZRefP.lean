/- Parse and Print of the document, over the functions that the walks compute. No condition but on the sizes told. -/
import Derived.Test.YtoncignjcgjhhaaDoorZPureD0
import Derived.Test.YtoncignjcgjhhaaDoorZPrintW
import Derived.Test.YtoncignjcgjhhaaDoorZQx20
import Derived.Test.YtoncignjcgjhhaaDoorZQx21
import Derived.Test.YtoncignjcgjhhaaDoorZU
set_option linter.unusedVariables false
set_option linter.unusedSimpArgs false
namespace Go.Proofs.YtoncignjcgjhhaaDoor.T
def dig (b : UInt8) : Bool := decide (48 ≤ b.toNat ∧ b.toNat ≤ 57)
def allD (l : List UInt8) : Bool := l.all dig
def foldN (l : List UInt8) (acc : Nat) : Nat := l.foldl (fun n d => n * 10 + (d.toNat - 48)) acc
def resN (l : List UInt8) (acc : Nat) : Int := if allD l = true then (foldN l acc : Int) else -1
theorem resN_nil (acc : Nat) : resN [] acc = acc := rfl
theorem resN_bad {b : UInt8} (l : List UInt8) (acc : Nat) (h : ¬ (48 ≤ b.toNat ∧ b.toNat ≤ 57)) : resN (b :: l) acc = -1 := by
 have : allD (b :: l) = false := by unfold allD; rw [List.all_cons]; unfold dig; rw [decide_eq_false h, Bool.false_and]
 unfold resN
 rw [this, if_neg (by decide)]
theorem resN_ok {b : UInt8} (l : List UInt8) (acc : Nat) (h : 48 ≤ b.toNat ∧ b.toNat ≤ 57) : resN (b :: l) acc = resN l (acc * 10 + (b.toNat - 48)) := by
 have : allD (b :: l) = allD l := by unfold allD; rw [List.all_cons]; unfold dig; rw [decide_eq_true h, Bool.true_and]
 unfold resN
 rw [this]
 rfl
theorem ext_len {s : ByteArray} {a b : Nat} (hb : b ≤ s.size) : (s.extract a b).data.toList.length = b - a := by
 have he : (s.extract a b).data = s.data.extract a b := ByteArray.data_extract
 have hs : s.data.size = s.size := rfl
 rw [he, Array.length_toList, Array.size_extract]; omega
theorem ext_mem {s : ByteArray} {a b i : Nat} (h0 : a ≤ i) (h1 : i < b) (hb : b ≤ s.size) : s[i]'(by omega) ∈ (s.extract a b).data.toList := by
 have he : (s.extract a b).data = s.data.extract a b := ByteArray.data_extract
 rw [he]
 have hs : s.data.size = s.size := rfl
 have hl : i - a < (s.data.extract a b).size := by rw [Array.size_extract]; omega
 have e : (s.data.extract a b)[i - a]'hl = s.data[i]'(by omega) := by
  rw [Array.getElem_extract]
  congr 1
  omega
 rw [show s[i]'(by omega) = s.data[i]'(by omega) from rfl, ← e]
 exact Array.mem_toList_iff.2 (Array.getElem_mem hl)
theorem bt_eq {s : ByteArray} {i : Nat} (h : i < s.size) : YtoncignjcgjhhaaDoorW.PrintWords.bt s (i : Int) = ((s[i]'h).toNat : Int) := by
 unfold YtoncignjcgjhhaaDoorW.PrintWords.bt
 rw [dif_pos (show ((i : Int)).toNat < s.size from by rw [Int.toNat_natCast]; exact h)]
 rfl
theorem okT_iff {s : ByteArray} (hs : s.size = 10) : okT s ↔ (s[4]'(by omega) = 45 ∧ s[7]'(by omega) = 45 ∧ allD (s.extract 0 4).data.toList = true ∧ allD (s.extract 5 7).data.toList = true ∧ allD (s.extract 8 10).data.toList = true) := by
 constructor
 ·
  intro h
  obtain ⟨_, hf⟩ := h
  have g : ∀ a b, a < b → b ≤ 10 → (∀ i, a ≤ i → i < b → ¬ (i = 4 ∨ i = 7)) → allD (s.extract a b).data.toList = true := by
   intro a b hab hb hd
   unfold allD
   rw [List.all_eq_true]
   intro x hx
   unfold dig
   exact decide_eq_true ((extract_mem hs hab hb hf hd).2 x hx)
  exact ⟨hf 4 (by omega), hf 7 (by omega), g 0 4 (by omega) (by omega) (by intro i _ _; omega), g 5 7 (by omega) (by omega) (by intro i _ _; omega), g 8 10 (by omega) (by omega) (by intro i _ _; omega)⟩
 ·
  rintro ⟨h4, h7, a, b, c⟩
  refine ⟨hs, fun i hi => ?_⟩
  unfold fits
  have g : ∀ x y, allD (s.extract x y).data.toList = true → x ≤ i → i < y → y ≤ 10 → 48 ≤ (s[i]'(by omega)).toNat ∧ (s[i]'(by omega)).toNat ≤ 57 := by
   intro x y hd h0 h1 h2
   unfold allD at hd
   rw [List.all_eq_true] at hd
   exact of_decide_eq_true (hd _ (ext_mem h0 h1 (by omega)))
  split
  ·
   next h =>
   rcases h with h | h
   ·
    subst h; exact h4
   ·
    subst h; exact h7
  ·
   next h =>
   by_cases h3 : i < 4
   ·
    exact g 0 4 a (by omega) h3 (by omega)
   ·
    by_cases h6 : i < 7
    ·
     exact g 5 7 b (by omega) h6 (by omega)
    ·
     exact g 8 10 c (by omega) (by omega) (by omega)
end Go.Proofs.YtoncignjcgjhhaaDoor.T
namespace Go.Proofs.YtoncignjcgjhhaaDoor.R
open Go.RowKit Go.Proofs.YtoncignjcgjhhaaDoorW.PrintWords Go.Proofs.YtoncignjcgjhhaaDoorW.PrintLast Go.Proofs.YtoncignjcgjhhaaDoorW.PrintMore
open Go.Proofs.YtoncignjcgjhhaaDoor.Q
open Go.Proofs.YtoncignjcgjhhaaDoor.L (w64 td tm tm0)
def lim : Nat → Nat
  | 0 => 0
  | i + 1 => lim i * 10 + 9
theorem lim_le : ∀ i, i ≤ 4 → lim i ≤ 9999
 | 0, _ => by decide
 | 1, _ => by decide
 | 2, _ => by decide
 | 3, _ => by decide
 | 4, _ => by decide
 | i + 5, h => absurd h (by omega)
theorem lim_step {i acc v : Nat} (ha : acc ≤ lim i) (hv : v ≤ 9) : acc * 10 + v ≤ lim (i + 1) := by
  show acc * 10 + v ≤ lim i * 10 + 9
  omega
theorem num_step {acc b : Nat} (ha : acc ≤ 9999) (hb : 48 ≤ b ∧ b ≤ 57) : wrap64 (wrap64 (10 * (acc : Int)) + ((b : Int) - 48) % 256) = ((acc * 10 + (b - 48) : Nat) : Int) := by
  rw [w64 (x := 10 * (acc : Int)) (by omega) (by omega), w64 (by omega) (by omega)]; omega
theorem idx_step {i : Nat} (hi : i ≤ 10) : wrap64 ((i : Int) + 1) = ((i + 1 : Nat) : Int) := by rw [w64 (by omega) (by omega)]; omega
theorem num_end (q : Nat) (x : ByteArray) (acc : Int) {i : Nat} (h : x.size ≤ i) : tenorref5_number.l0 (q + 1) x acc i = some acc := by
  rw [tenorref5_number.l0, if_neg (by omega)]
theorem num_next (q : Nat) (x : ByteArray) (acc : Nat) {i : Nat} (h : i < x.size) (hi : i ≤ 10) (ha : acc ≤ 9999) (hb : 48 ≤ (x[i]'h).toNat ∧ (x[i]'h).toNat ≤ 57) :
  tenorref5_number.l0 (q + 1) x acc i = tenorref5_number.l0 q x ((acc * 10 + ((x[i]'h).toNat - 48) : Nat) : Int) ((i + 1 : Nat) : Int) := by
 have e := T.bt_eq h
 obtain ⟨b, hbb⟩ : ∃ b, b = (x[i]'h).toNat := ⟨_, rfl⟩
 rw [← hbb] at e hb ⊢
 have e1 := num_step ha hb;have e2 := idx_step hi
 have g1 : (i : Int) < (x.size : Int) := by omega
 have g2 : (0 : Int) ≤ (i : Int) := by omega
 have g3 : ¬ (b : Int) < 48 := by omega
 have g4 : ¬ (b : Int) > 57 := by omega
 rw [tenorref5_number.l0, if_pos g1, if_pos g2, e, if_neg g3, if_neg g4, e1, e2]
theorem num_bad (q : Nat) (x : ByteArray) (acc : Int) {i : Nat} (h : i < x.size) (hb : ¬ (48 ≤ (x[i]'h).toNat ∧ (x[i]'h).toNat ≤ 57)) :
  tenorref5_number.l0 (q + 1) x acc i = some (-1) := by
 have e := T.bt_eq h
 obtain ⟨b, hbb⟩ : ∃ b, b = (x[i]'h).toNat := ⟨_, rfl⟩
 rw [← hbb] at e hb
 have g1 : (i : Int) < (x.size : Int) := by omega
 have g2 : (0 : Int) ≤ (i : Int) := by omega
 rw [tenorref5_number.l0, if_pos g1, if_pos g2, e]
 by_cases h0 : (b : Int) < 48
 ·
  rw [if_pos h0]
 ·
  have g3 : (b : Int) > 57 := by omega
  rw [if_neg h0, if_pos g3]
theorem drop_at (x : ByteArray) {i : Nat} (h : i < x.size) : x.data.toList.drop i = x[i]'h :: x.data.toList.drop (i + 1) := by
 have hl : i < x.data.toList.length := by rw [Array.length_toList]; exact h
 rw [List.drop_eq_getElem_cons hl, Array.getElem_toList]
 rfl
theorem number_l0 (x : ByteArray) (hx : x.size ≤ 4) : ∀ (d i acc : Nat), x.size - i = d → i ≤ x.size → acc ≤ lim i → Ev (fun q => tenorref5_number.l0 q x acc i) (T.resN (x.data.toList.drop i) acc)
 | 0, i, acc, hd, hi, ha => by
  have e : x.data.toList.drop i = [] := List.drop_eq_nil_of_le (by rw [Array.length_toList]; show x.size ≤ i; omega)
  rw [e, T.resN_nil]
  exact Ev.step (f := fun _ => some (acc : Int)) (fun q => num_end q x acc (by omega)) (Ev.now _)
 | d + 1, i, acc, hd, hi, ha => by
  have hlt : i < x.size := by omega
  rw [drop_at x hlt]
  by_cases h : 48 ≤ (x[i]'hlt).toNat ∧ (x[i]'hlt).toNat ≤ 57
  ·
   rw [T.resN_ok _ _ h]
   have h9 : (x[i]'hlt).toNat - 48 ≤ 9 := by omega
   have ih := number_l0 x hx d (i + 1) (acc * 10 + ((x[i]'hlt).toNat - 48)) (by omega) (by omega) (lim_step ha h9)
   exact Ev.step (fun q => num_next q x acc hlt (by omega) (Nat.le_trans ha (lim_le i (by omega))) h) ih
  ·
   rw [T.resN_bad _ _ h]
   exact Ev.step (f := fun _ => some (-1 : Int)) (fun q => num_bad q x acc hlt h) (Ev.now _)
theorem number (x : ByteArray) (hx : x.size ≤ 4) : Ev (fun q => tenorref5_number.f q x) (T.resN x.data.toList 0) := number_l0 x hx x.size 0 0 (by omega) (by omega) (by decide)
theorem Parse_j0t (s : ByteArray) : Ev (fun q => tenorref5_Parse.j0 q s true) ((0, 50) : Int × Int) :=
  Ev.step (f := fun _ => some ((0, 50) : Int × Int)) (fun q => by rw [tenorref5_Parse.j0, if_pos rfl]) (Ev.now _)
def parseV (s : ByteArray) : Int × Int :=
  if T.okT s then (if M.isDate (T.numT s 0 4) (T.numT s 5 7) (T.numT s 8 10) then (M.dayOf (T.numT s 0 4) (T.numT s 5 7) (T.numT s 8 10), 0) else (0, 50)) else (0, 50)
theorem Parse (s : ByteArray) : Ev (fun q => tenorref5_Parse.f q s) (parseV s) := by
 unfold parseV
 by_cases hs : s.size = 10
 ·
  have hs' : (s.size : Int) = 10 := by omega
  have b4 := T.bt_eq (s := s) (i := 4) (by omega)
  have b7 := T.bt_eq (s := s) (i := 7) (by omega)
  refine Ev.congr (fun q => by unfold tenorref5_Parse.f; rw [if_pos hs', if_pos (by omega)]) ?_
  have hbt4 : bt s 4 = ((s[4]'(by omega)).toNat : Int) := b4
  have hbt7 : bt s 7 = ((s[7]'(by omega)).toNat : Int) := b7
  by_cases h4 : s[4]'(by omega) = 45
  ·
   have h4' : bt s 4 = 45 := by rw [hbt4, h4]; rfl
   refine Ev.congr (fun q => by rw [if_pos h4', if_pos (by omega)]) ?_
   by_cases h7 : s[7]'(by omega) = 45
   ·
    have h7' : (bt s 7 != 45) = false := by rw [hbt7, h7]; rfl
    rw [h7']
    have g4 : (4 : Int) ≤ (s.size : Int) := by omega
    have g7 : (7 : Int) ≤ (s.size : Int) := by omega
    have g8 : (8 : Int) ≤ (s.size : Int) := by omega
    have z1 : (s.extract 0 4).size ≤ 4 := by rw [ByteArray.size_extract]; omega
    have z2 : (s.extract 5 7).size ≤ 4 := by rw [ByteArray.size_extract]; omega
    have z3 : (s.extract 8 10).size ≤ 4 := by rw [ByteArray.size_extract]; omega
    have n1 := number (s.extract 0 4) z1
    have n2 := number (s.extract 5 7) z2
    have n3 := number (s.extract 8 10) z3
    have hof := Of (T.resN (s.extract 0 4).data.toList 0) (T.resN (s.extract 5 7).data.toList 0) (T.resN (s.extract 8 10).data.toList 0)
    refine Ev.step (fun q => by rw [tenorref5_Parse.j0, if_neg (by decide), if_pos (show (0 : Nat) ≤ 4 by decide), if_pos g4]) (Ev.bind n1 ?_)
    refine Ev.congr (fun q => by rw [if_pos (show (5 : Nat) ≤ 7 by decide), if_pos g7]) (Ev.bind n2 ?_)
    refine Ev.congr (fun q => by rw [if_pos g8, hs]) (Ev.bind n3 ?_)
    refine Ev.bind hof ?_
    refine Ev.congr (f := fun _ => some _) (fun q => ?_) (Ev.now _)
    show some (_, _) = some _
    congr 1
    have key := T.okT_iff hs
    by_cases hok : T.okT s
    ·
     obtain ⟨_, _, a, b, c⟩ := key.1 hok
     rw [if_pos hok]
     have r1 : T.resN (s.extract 0 4).data.toList 0 = (T.numT s 0 4 : Int) := by unfold T.resN; rw [if_pos a]; rfl
     have r2 : T.resN (s.extract 5 7).data.toList 0 = (T.numT s 5 7 : Int) := by unfold T.resN; rw [if_pos b]; rfl
     have r3 : T.resN (s.extract 8 10).data.toList 0 = (T.numT s 8 10 : Int) := by unfold T.resN; rw [if_pos c]; rfl
     rw [r1, r2, r3]
    ·
     rw [if_neg hok]
     have hn : ¬ M.isDate (T.resN (s.extract 0 4).data.toList 0) (T.resN (s.extract 5 7).data.toList 0) (T.resN (s.extract 8 10).data.toList 0) := by
      intro hd
      apply hok
      refine key.2 ⟨h4, h7, ?_, ?_, ?_⟩
      ·
       by_cases h : T.allD (s.extract 0 4).data.toList = true
       ·
        exact h
       ·
        have e : T.resN (s.extract 0 4).data.toList 0 = -1 := by unfold T.resN; rw [if_neg h]
        have := hd.1; omega
      ·
       by_cases h : T.allD (s.extract 5 7).data.toList = true
       ·
        exact h
       ·
        have e : T.resN (s.extract 5 7).data.toList 0 = -1 := by unfold T.resN; rw [if_neg h]
        have := hd.2.2.1; omega
      ·
       by_cases h : T.allD (s.extract 8 10).data.toList = true
       ·
        exact h
       ·
        have e : T.resN (s.extract 8 10).data.toList 0 = -1 := by unfold T.resN; rw [if_neg h]
        have := hd.2.2.2.2.1; omega
     rw [if_neg hn]
   ·
    have h7' : (bt s 7 != 45) = true := by
     rw [hbt7, bne_iff_ne]
     intro e
     exact h7 (UInt8.toNat_inj.1 (show (s[7]'(by omega)).toNat = 45 by omega))
    rw [h7', if_neg (fun hok => h7 ((T.okT_iff hs).1 hok).2.1)]
    exact Parse_j0t s
  ·
   have h4' : ¬ bt s 4 = 45 := by
    rw [hbt4]
    intro e
    exact h4 (UInt8.toNat_inj.1 (show (s[4]'(by omega)).toNat = 45 by omega))
   rw [if_neg (fun hok => h4 ((T.okT_iff hs).1 hok).1)]
   exact Ev.congr (fun q => if_neg h4') (Parse_j0t s)
 ·
  rw [if_neg (fun hok => hs hok.1)]
  exact Ev.congr (fun q => by unfold tenorref5_Parse.f; rw [if_neg (by omega)]) (Parse_j0t s)
theorem cons_size (b : UInt8) {s : ByteArray} {n : Nat} (h : s.size = n) : ((⟨#[b]⟩ : ByteArray) ++ s).size = n + 1 := by
 rw [ByteArray.size_append, h]
 show 1 + n = n + 1
 omega
theorem padded_step (q : Nat) (x k : Int) (s : ByteArray) (i : Int) (hx : 0 ≤ x ∧ x ≤ 9999) {n : Nat} (hs : s.size = n) (hn : n ≤ 100) (hi : 0 ≤ i ∧ i < k) (hk : k ≤ 100) :
  tenorref5_padded.l0 (q + 1) x k s i = tenorref5_padded.l0 q (x / 10) k ((⟨#[T.dg (x % 10)]⟩ : ByteArray) ++ s) (i + 1) := by
 have e1 : strOfNums [(48 + Int.tmod x 10 % 256) % 256] = (⟨#[T.dg (x % 10)]⟩ : ByteArray) := by
  rw [tm hx.1]
  unfold strOfNums T.dg
  have : ((48 + x % 10 % 256) % 256).toNat = 48 + (x % 10).toNat := by omega
  simp only [List.map_cons, List.map_nil, this]
 have e2 : wrap64 (Int.tdiv x 10) = x / 10 := by rw [td hx.1, w64 (by omega) (by omega)]
 have e3 : wrap64 (i + 1) = i + 1 := w64 (by omega) (by omega)
 have hz : (⟨#[T.dg (x % 10)]⟩ : ByteArray).size = 1 := rfl
 rw [tenorref5_padded.l0, if_pos hi.2, Option.bind_some, e1, e2, e3, if_pos (by rw [hz]; omega)]
theorem padded_end (q : Nat) (x k : Int) (s : ByteArray) : tenorref5_padded.l0 (q + 1) x k s k = some s := by
  rw [tenorref5_padded.l0, if_neg (by omega)]
theorem padded4 {y : Int} (h : 1900 ≤ y ∧ y ≤ 2199) : Ev (fun q => tenorref5_padded.f q y 4) (T.year y) := by
 refine ⟨5, fun q hq => ?_⟩
 obtain ⟨p, rfl⟩ : ∃ p, q = p + 1 + 1 + 1 + 1 + 1 := ⟨q - 5, by omega⟩
 show tenorref5_padded.l0 _ y 4 _ 0 = _
 have s0 : (⟨#[]⟩ : ByteArray).size = 0 := rfl
 have s1 := cons_size (T.dg (y % 10)) s0
 have s2 := cons_size (T.dg (y / 10 % 10)) s1
 have s3 := cons_size (T.dg (y / 10 / 10 % 10)) s2
 rw [padded_step _ y 4 _ 0 (by omega) s0 (by omega) (by omega) (by omega), padded_step _ (y / 10) 4 _ (0 + 1) (by omega) s1 (by omega) (by omega) (by omega),
  padded_step _ (y / 10 / 10) 4 _ (0 + 1 + 1) (by omega) s2 (by omega) (by omega) (by omega), padded_step _ (y / 10 / 10 / 10) 4 _ (0 + 1 + 1 + 1) (by omega) s3 (by omega) (by omega) (by omega)]
 rw [show (0 + 1 + 1 + 1 + 1 : Int) = 4 by decide, padded_end]
 unfold T.year
 have e1 : y / 10 / 10 / 10 % 10 = y / 1000 := by omega
 have e2 : y / 10 / 10 % 10 = y / 100 % 10 := by omega
 rw [e1, e2]
 rfl
theorem padded2 {y : Int} (h : 0 ≤ y ∧ y ≤ 99) : Ev (fun q => tenorref5_padded.f q y 2) (T.two y) := by
 refine ⟨3, fun q hq => ?_⟩
 obtain ⟨p, rfl⟩ : ∃ p, q = p + 1 + 1 + 1 := ⟨q - 3, by omega⟩
 show tenorref5_padded.l0 _ y 2 _ 0 = _
 have s0 : (⟨#[]⟩ : ByteArray).size = 0 := rfl
 have s1 := cons_size (T.dg (y % 10)) s0
 rw [padded_step _ y 2 _ 0 (by omega) s0 (by omega) (by omega) (by omega), padded_step _ (y / 10) 2 _ (0 + 1) (by omega) s1 (by omega) (by omega) (by omega)]
 rw [show (0 + 1 + 1 : Int) = 2 by decide, padded_end]
 unfold T.two
 have e1 : y / 10 % 10 = y / 10 := by omega
 rw [e1]
 rfl
theorem Print (n : Int) : Ev (fun q => tenorref5_Print.f q n) (H.printF n) := by
 have hc := Civil n
 unfold H.printF
 by_cases hn : 0 ≤ n ∧ n ≤ 109572
 ·
  rw [if_pos hn] at hc
  rw [if_pos hn]
  have hd := (M.civ_spec n hn.1 hn.2).1
  have hl := M.mlen_rng (M.civY n) (M.civM n)
  unfold M.isDate at hd
  have s4 : (T.year (M.civY n)).size = 4 := rfl
  have s2 : ∀ x, (T.two x).size = 2 := fun x => rfl
  have s1 : (⟨#[45]⟩ : ByteArray).size = 1 := rfl
  refine Ev.congr (fun q => by unfold tenorref5_Print.f; rfl) (Ev.bind hc ?_)
  refine Ev.congr (fun q => if_pos rfl) (Ev.bind (padded4 (y := M.civY n) (by omega)) ?_)
  refine Ev.congr (fun q => by rw [if_pos (by rw [s4]; decide)]) (Ev.bind (padded2 (y := M.civM n) (by omega)) ?_)
  refine Ev.congr (fun q => by rw [if_pos (by rw [ByteArray.size_append, s4, s2, s1]; decide), if_pos (by rw [ByteArray.size_append, ByteArray.size_append, s4, s2, s1]; decide)]) (Ev.bind (padded2 (y := M.civD n) (by omega)) ?_)
  refine Ev.congr (f := fun _ => some (T.textOf n, (0 : Int))) (fun q => ?_) (Ev.now _)
  rw [if_pos (by rw [ByteArray.size_append, ByteArray.size_append, ByteArray.size_append, s4, s2, s1, s2]; decide)]
  rfl
 ·
  rw [if_neg hn] at hc
  rw [if_neg hn]
  refine Ev.congr (fun q => by unfold tenorref5_Print.f; rfl) (Ev.bind hc ?_)
  exact Ev.congr (fun q => if_neg (by decide)) (Ev.now _)
end Go.Proofs.YtoncignjcgjhhaaDoor.R
