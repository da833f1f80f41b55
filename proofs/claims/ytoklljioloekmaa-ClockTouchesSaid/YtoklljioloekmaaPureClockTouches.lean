/- The statement of ClockTouches behind its walk. No condition. -/
import Derived.Test.YtoklljioloekmaaClockTouches
import Derived.DataShut
namespace Go.Proofs.Ytoklljioloekmaa.Pure
open Go.RowKit Go.Proofs.Ytoklljioloekmaa.Print
set_option linter.unusedVariables false
theorem ClockTouches {P0 P1 : Prop} (x0 : Int × List S32) (x1 : Int) (x2 : Bool) (w0 : P0) (w1 : P1) : bobbinlaw16_ClockTouches.f x0.1 x0.2 x1 x2 = some true := rfl
end Go.Proofs.Ytoklljioloekmaa.Pure
