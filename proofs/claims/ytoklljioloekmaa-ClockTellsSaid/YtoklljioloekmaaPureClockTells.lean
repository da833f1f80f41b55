/- The statement of ClockTells behind its walk. No condition. -/
import Derived.Test.YtoklljioloekmaaClockTells
import Derived.DataShut
namespace Go.Proofs.Ytoklljioloekmaa.Pure
open Go.RowKit Go.Proofs.Ytoklljioloekmaa.Print
set_option linter.unusedVariables false
theorem ClockTells {P0 P1 P2 : Prop} (x0 : Int × List S32) (x1 x2 : Int) (x3 : Bool) (w0 : P0) (w1 : P1) (w2 : P2) : bobbinlaw16_ClockTells.f x0.1 x0.2 x1 x2 x3 = some true := rfl
end Go.Proofs.Ytoklljioloekmaa.Pure
