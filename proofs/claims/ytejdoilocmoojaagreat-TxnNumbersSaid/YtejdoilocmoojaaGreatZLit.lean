/- The tables of the program. -/
import Derived.Test.YtejdoilocmoojaaGreatZA6
import Derived.Test.YtejdoilocmoojaaGreatProg
import Derived.KernelRfl
set_option linter.unusedSimpArgs false
set_option linter.unusedVariables false
/-! The program's tables. -/
namespace Go.Ab.K
open Go.Proofs
def ext (f : FuncId) : Option Nat := if f = 153 then some 0 else if f = 227 then some 1 else none
noncomputable def T : Tab := tabOf Tryz.prog ext
def pts16 : List Pt := [.t .d0 .d0 .d0, .t .d0 .d0 .d1, .t .d0 .d0 .d2, .t .d0 .d0 .d3, .t .d0 .d0 .d4, .t .d0 .d0 .d5, .t .d0 .d0 .d6, .t .d0 .d0 .d7, .t .d0 .d1 .d0, .t .d0 .d1 .d1, .t .d0 .d1 .d2, .t .d0 .d1 .d3, .t .d0 .d1 .d4, .t .d0 .d1 .d5, .t .d0 .d1 .d6, .t .d0 .d1 .d7]
end Go.Ab.K
