/- A day's text, as it is printed, is parsed to that day. Condition: the number is a day. -/
import Derived.Test.YtoncignjcgjhhaaDoorZPureD0
import Derived.Test.YtoncignjcgjhhaaDoorZPrintW
import Derived.Test.YtoncignjcgjhhaaDoorZU
set_option linter.unusedVariables false
set_option linter.unusedSimpArgs false
namespace Go.Proofs.YtoncignjcgjhhaaDoor.T
theorem dg_ok {x : Int} (h : 0 ≤ x ∧ x ≤ 9) : (48 ≤ (dg x).toNat ∧ (dg x).toNat ≤ 57) ∧ (dg x).toNat - 48 = x.toNat := by
 have e : (dg x).toNat = 48 + x.toNat := by
  unfold dg
  rw [UInt8.toNat_ofNat']
  omega
 rw [e]; omega
def bytes (Y Mo D : Int) : ByteArray := ⟨#[dg (Y / 1000), dg (Y / 100 % 10), dg (Y / 10 % 10), dg (Y % 10), 45, dg (Mo / 10), dg (Mo % 10), 45, dg (D / 10), dg (D % 10)]⟩
theorem text_bytes (Y Mo D : Int) : (((year Y ++ dash) ++ two Mo) ++ dash) ++ two D = bytes Y Mo D := by
 apply ByteArray.ext
 rw [ByteArray.data_append, ByteArray.data_append, ByteArray.data_append, ByteArray.data_append]
 rfl
theorem fits_dig {i : Nat} {b : UInt8} (h : ¬ (i = 4 ∨ i = 7)) (hb : 48 ≤ b.toNat ∧ b.toNat ≤ 57) : fits i b := by unfold fits; rw [if_neg h]; exact hb
theorem fits_dash {i : Nat} (h : i = 4 ∨ i = 7) : fits i 45 := by unfold fits; rw [if_pos h]
theorem okT_bytes {Y Mo D : Int} (hY : 1900 ≤ Y ∧ Y ≤ 2199) (hM : 1 ≤ Mo ∧ Mo ≤ 12) (hD : 1 ≤ D ∧ D ≤ 31) : okT (bytes Y Mo D) := by
 refine ⟨rfl, fun i hi => ?_⟩
 match i, hi with
 | 0, _ => exact fits_dig (by omega) (dg_ok (x := Y / 1000) (by omega)).1
 | 1, _ => exact fits_dig (by omega) (dg_ok (x := Y / 100 % 10) (by omega)).1
 | 2, _ => exact fits_dig (by omega) (dg_ok (x := Y / 10 % 10) (by omega)).1
 | 3, _ => exact fits_dig (by omega) (dg_ok (x := Y % 10) (by omega)).1
 | 4, _ => exact fits_dash (by omega)
 | 5, _ => exact fits_dig (by omega) (dg_ok (x := Mo / 10) (by omega)).1
 | 6, _ => exact fits_dig (by omega) (dg_ok (x := Mo % 10) (by omega)).1
 | 7, _ => exact fits_dash (by omega)
 | 8, _ => exact fits_dig (by omega) (dg_ok (x := D / 10) (by omega)).1
 | 9, _ => exact fits_dig (by omega) (dg_ok (x := D % 10) (by omega)).1
 | i + 10, h => omega
theorem num_list (s : ByteArray) (a b : Nat) (l : List UInt8) (h : (s.data.extract a b).toList = l) : numT s a b = l.foldl (fun n d => n * 10 + (d.toNat - 48)) 0 := by
  unfold numT
  rw [ByteArray.data_extract, h]
theorem num_year {Y Mo D : Int} (hY : 1900 ≤ Y ∧ Y ≤ 2199) : (numT (bytes Y Mo D) 0 4 : Int) = Y := by
 rw [num_list _ 0 4 [dg (Y / 1000), dg (Y / 100 % 10), dg (Y / 10 % 10), dg (Y % 10)] rfl]
 simp only [List.foldl_cons, List.foldl_nil]
 rw [(dg_ok (x := Y / 1000) (by omega)).2, (dg_ok (x := Y / 100 % 10) (by omega)).2, (dg_ok (x := Y / 10 % 10) (by omega)).2, (dg_ok (x := Y % 10) (by omega)).2]
 omega
theorem num_mon {Y Mo D : Int} (hM : 1 ≤ Mo ∧ Mo ≤ 12) : (numT (bytes Y Mo D) 5 7 : Int) = Mo := by
 rw [num_list _ 5 7 [dg (Mo / 10), dg (Mo % 10)] rfl]
 simp only [List.foldl_cons, List.foldl_nil]
 rw [(dg_ok (x := Mo / 10) (by omega)).2, (dg_ok (x := Mo % 10) (by omega)).2]
 omega
theorem num_day {Y Mo D : Int} (hD : 1 ≤ D ∧ D ≤ 31) : (numT (bytes Y Mo D) 8 10 : Int) = D := by
 rw [num_list _ 8 10 [dg (D / 10), dg (D % 10)] rfl]
 simp only [List.foldl_cons, List.foldl_nil]
 rw [(dg_ok (x := D / 10) (by omega)).2, (dg_ok (x := D % 10) (by omega)).2]
 omega
end Go.Proofs.YtoncignjcgjhhaaDoor.T
namespace Go.Proofs.YtoncignjcgjhhaaDoor.D
open Go.RowKit Go.Proofs.YtoncignjcgjhhaaDoorW.PrintWords Go.Proofs.YtoncignjcgjhhaaDoorW.PrintLast Go.Proofs.YtoncignjcgjhhaaDoorW.PrintMore
open Go.Proofs.YtoncignjcgjhhaaDoor.Q
theorem parse_text {n : Int} (hn : 0 ≤ n ∧ n ≤ 109572) : Ev (fun k => date_Parse.f k (T.textOf n)) (n, 0) := by
 obtain ⟨hd, e⟩ := M.civ_spec n hn.1 hn.2
 have hl := M.mlen_rng (M.civY n) (M.civM n)
 have hd' := hd
 unfold M.isDate at hd'
 have h := parse_ok (T.okT_bytes (Y := M.civY n) (Mo := M.civM n) (D := M.civD n) (by omega) (by omega) (by omega))
 rw [T.num_year (by omega), T.num_mon (by omega), T.num_day (by omega), if_pos hd, e] at h
 unfold T.textOf
 rw [T.text_bytes]
 exact h
end Go.Proofs.YtoncignjcgjhhaaDoor.D
