/- From the row's condition on the listed tables to strconv's table of powers of ten. No other condition. -/
import Derived.Test.YtoncignjcgjhhaaDoorRows
import Derived.Lib.LaidTab
import Derived.Lib.AppendIntMem
import Derived.Stop.LaidErr
import Derived.KernelRfl
import Derived.Test.YtoncignjcgjhhaaDoorZU
set_option linter.unusedVariables false
set_option linter.unusedSimpArgs false
namespace Go.Proofs.YtoncignjcgjhhaaDoor.D
theorem tab_same : (Rows.laid_internal_strconv_uint64pow10 : DataW Unit) = Lib.tabData .u64 Lib.pow10Tab := by kernel_rfl
theorem tab_of_laid {x y : String × DataW Unit} {rest : List (String × DataW Unit)} {W : World} (h : laidMet Tryd.prog (x :: y :: ("internal/strconv.uint64pow10", Rows.laid_internal_strconv_uint64pow10) :: rest) W) :
  Lib.TabBelow Tryd.prog W.heap.size W "internal/strconv.uint64pow10" .u64 Lib.pow10Tab := by
 have h2 := laidMet.tail (laidMet.tail h)
 rw [tab_same] at h2
 exact Lib.tabBelow_of_tabIs (Lib.tabIs_of_head (g := 2) (t := 94) (e := 74) (n := 20) (by kernel_rfl) (by kernel_rfl) (by kernel_rfl) (by kernel_rfl) (by kernel_rfl) (by kernel_rfl) h2)
end Go.Proofs.YtoncignjcgjhhaaDoor.D
