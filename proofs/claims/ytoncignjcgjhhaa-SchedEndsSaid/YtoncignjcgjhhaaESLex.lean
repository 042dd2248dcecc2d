/- The order of a wide region of the law SchedEnds is the text's: the check by the kernel, in pieces. No condition. -/
import Derived.Test.YtoncignjcgjhhaaEGA
namespace Go.Proofs.Ytoncignjcgjhhaa.Q
open Go.RowKit Go.Proofs.YtoncignjcgjhhaaW.PrintWords Go.Proofs.YtoncignjcgjhhaaW.PrintLast Go.Proofs.YtoncignjcgjhhaaW.PrintMore
/-- The checks of m operations from the k-th on. -/
def lexN (md : Region.Mode) (ops : Array Oper) : Nat → Nat → Array Bool → Bool
  | 0, _, _ => true
  | m + 1, k, listed => (Region.ready md ops listed).contains k && Region.free md ops listed k && lexN md ops m (k + 1) (listed.setIfInBounds k true)
def lexP : Nat → Nat → Array Bool → Array Bool
  | 0, _, l => l
  | m + 1, k, l => lexP m (k + 1) (l.setIfInBounds k true)
theorem lex_split (md : Region.Mode) (ops : Array Oper) (fuel : Nat) : ∀ (m k : Nat) (l l2 : Array Bool), lexN md ops m k l = true → lexP m k l = l2 → Region.lexFrom md ops fuel (k + m) l2 = true → Region.lexFrom md ops (fuel + m) k l = true
  | 0, k, l, l2, _, e, h => by subst e; exact h
  | m + 1, k, l, l2, h0, e, h => by
    unfold lexN at h0
    rw [Bool.and_eq_true] at h0
    have ih := lex_split md ops fuel m (k + 1) (l.setIfInBounds k true) l2 h0.2 e (by rw [show k + 1 + m = k + (m + 1) by omega]; exact h)
    rw [show fuel + (m + 1) = fuel + m + 1 by omega]
    unfold Region.lexFrom
    rw [h0.1, ih]
    rfl
def lexL (n k : Nat) : Array Bool := (List.replicate k true ++ List.replicate (n - k) false).toArray
theorem lex21_0 : lexN .any (opsOf Try.f19 21) 8 0 (lexL 95 0) = true := by kernel_rfl
theorem lex21_8 : lexN .any (opsOf Try.f19 21) 8 8 (lexL 95 8) = true := by kernel_rfl
theorem lex21_16 : lexN .any (opsOf Try.f19 21) 8 16 (lexL 95 16) = true := by kernel_rfl
theorem lex21_24 : lexN .any (opsOf Try.f19 21) 8 24 (lexL 95 24) = true := by kernel_rfl
theorem lex21_32 : lexN .any (opsOf Try.f19 21) 8 32 (lexL 95 32) = true := by kernel_rfl
theorem lex21_40 : lexN .any (opsOf Try.f19 21) 8 40 (lexL 95 40) = true := by kernel_rfl
theorem lex21_48 : lexN .any (opsOf Try.f19 21) 8 48 (lexL 95 48) = true := by kernel_rfl
theorem lex21_56 : lexN .any (opsOf Try.f19 21) 8 56 (lexL 95 56) = true := by kernel_rfl
theorem lex21_64 : lexN .any (opsOf Try.f19 21) 8 64 (lexL 95 64) = true := by kernel_rfl
theorem lex21_72 : lexN .any (opsOf Try.f19 21) 8 72 (lexL 95 72) = true := by kernel_rfl
theorem lex21_80 : lexN .any (opsOf Try.f19 21) 8 80 (lexL 95 80) = true := by kernel_rfl
theorem lex21_88 : lexN .any (opsOf Try.f19 21) 7 88 (lexL 95 88) = true := by kernel_rfl
theorem lex21_end : Region.lexFrom .any (opsOf Try.f19 21) 0 95 (lexL 95 95) = true := by kernel_rfl
theorem lex21_f88 : Region.lexFrom .any (opsOf Try.f19 21) 7 88 (lexL 95 88) = true := lex_split .any _ 0 7 88 _ _ lex21_88 (by kernel_rfl) lex21_end
theorem lex21_f80 : Region.lexFrom .any (opsOf Try.f19 21) 15 80 (lexL 95 80) = true := lex_split .any _ 7 8 80 _ _ lex21_80 (by kernel_rfl) lex21_f88
theorem lex21_f72 : Region.lexFrom .any (opsOf Try.f19 21) 23 72 (lexL 95 72) = true := lex_split .any _ 15 8 72 _ _ lex21_72 (by kernel_rfl) lex21_f80
theorem lex21_f64 : Region.lexFrom .any (opsOf Try.f19 21) 31 64 (lexL 95 64) = true := lex_split .any _ 23 8 64 _ _ lex21_64 (by kernel_rfl) lex21_f72
theorem lex21_f56 : Region.lexFrom .any (opsOf Try.f19 21) 39 56 (lexL 95 56) = true := lex_split .any _ 31 8 56 _ _ lex21_56 (by kernel_rfl) lex21_f64
theorem lex21_f48 : Region.lexFrom .any (opsOf Try.f19 21) 47 48 (lexL 95 48) = true := lex_split .any _ 39 8 48 _ _ lex21_48 (by kernel_rfl) lex21_f56
theorem lex21_f40 : Region.lexFrom .any (opsOf Try.f19 21) 55 40 (lexL 95 40) = true := lex_split .any _ 47 8 40 _ _ lex21_40 (by kernel_rfl) lex21_f48
theorem lex21_f32 : Region.lexFrom .any (opsOf Try.f19 21) 63 32 (lexL 95 32) = true := lex_split .any _ 55 8 32 _ _ lex21_32 (by kernel_rfl) lex21_f40
theorem lex21_f24 : Region.lexFrom .any (opsOf Try.f19 21) 71 24 (lexL 95 24) = true := lex_split .any _ 63 8 24 _ _ lex21_24 (by kernel_rfl) lex21_f32
theorem lex21_f16 : Region.lexFrom .any (opsOf Try.f19 21) 79 16 (lexL 95 16) = true := lex_split .any _ 71 8 16 _ _ lex21_16 (by kernel_rfl) lex21_f24
theorem lex21_f8 : Region.lexFrom .any (opsOf Try.f19 21) 87 8 (lexL 95 8) = true := lex_split .any _ 79 8 8 _ _ lex21_8 (by kernel_rfl) lex21_f16
theorem lex21_f0 : Region.lexFrom .any (opsOf Try.f19 21) 95 0 (lexL 95 0) = true := lex_split .any _ 87 8 0 _ _ lex21_0 (by kernel_rfl) lex21_f8
theorem lex19_21 : Region.lexB .any (opsOf Try.f19 21) = true := by
  unfold Region.lexB
  rw [show Region.noSelect (opsOf Try.f19 21) = true by kernel_rfl, show (opsOf Try.f19 21).size = 95 by kernel_rfl, show Array.replicate 95 false = lexL 95 0 by kernel_rfl, lex21_f0]
  rfl
theorem lex_of {l : List Oper} {r : Array Oper} (e : l.toArray = r) (h : Region.lexB .any r = true) : Region.lexB .any l.toArray = true := by rw [e]; exact h
end Go.Proofs.Ytoncignjcgjhhaa.Q
