/- awake(), run from nothing, answers true. -/
import Derived.Test.YtejdoilocmoojaaGreatZTbl
set_option linter.unusedSimpArgs false
set_option linter.unusedVariables false
/-! A run in the kernel: awake. -/
namespace Go.Ab.K
open Go.Proofs
noncomputable def isTrue (v : AV) (_ : Heap) : Bool := AV.onBool false true false v
theorem awakeT : mcall T F 5000 200 7 [] Heap.empty isTrue = true := by kernel_rfl
end Go.Ab.K
