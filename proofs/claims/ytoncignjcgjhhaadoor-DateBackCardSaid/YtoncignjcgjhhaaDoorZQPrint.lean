/- Contracts of functions of the seat's program: each Go function's Lean function and its walk, written by a program of this session over the kit's print. Not trusted: Lean checks it. -/
import Derived.Test.YtoncignjcgjhhaaDoorZPrintW
import Derived.Test.YtoncignjcgjhhaaDoorZGA
import Derived.Test.YtoncignjcgjhhaaDoorZU
set_option linter.unusedVariables false
set_option linter.unusedSimpArgs false
namespace Go.Proofs.YtoncignjcgjhhaaDoor.Q
open Go.RowKit Go.Proofs.YtoncignjcgjhhaaDoorW.PrintWords Go.Proofs.YtoncignjcgjhhaaDoorW.PrintLast Go.Proofs.YtoncignjcgjhhaaDoorW.PrintMore
attribute [local go_sem] max2_int min2_int max_two min_two max_three min_three max_four min_four   -- for this text's walks alone
theorem tab_on {w W : World} {nm : String} {kd : IntKind} {zs : List Int} (h : Lib.TabBelow Tryd.prog w.heap.size w nm kd zs) (hb : Below w.heap.size w W) : Lib.TabBelow Tryd.prog W.heap.size W nm kd zs := fun w' h' => h w' (below_step hb h')
def date_Print.f (a0 : Int) : Option (ByteArray × Int) := some (Go.Proofs.YtoncignjcgjhhaaDoor.H.printF a0)
theorem date_Print.calls (a0 : Int) (r1 : ByteArray) (r2 : Int) (w : World) (h : date_Print.f a0 = some (r1, r2)) (ht : Lib.TabBelow Tryd.prog w.heap.size w "internal/strconv.uint64pow10" .u64 Lib.pow10Tab) :
  Calls Tryd.prog 17 #[.int .i64 a0] w fun e w' => e = .returned (.tuple #[.string r1, .int .i64 r2]) ∧ Below w.heap.size w w' := by
 have e := Option.some.inj h;have c := Go.Proofs.YtoncignjcgjhhaaDoor.H.print_calls a0 w ht
 rw [e] at c
 exact c
end Go.Proofs.YtoncignjcgjhhaaDoor.Q
