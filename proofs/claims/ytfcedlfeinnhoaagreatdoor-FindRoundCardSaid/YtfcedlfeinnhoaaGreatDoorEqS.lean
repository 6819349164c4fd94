/- Structs compared, whose fields are strings, integers and bools. No condition. -/
import Derived.Test.YtfcedlfeinnhoaaGreatDoorStrs
import Derived.Laws.StructEq
namespace Go.Eng
set_option linter.unusedSimpArgs false
set_option linter.unusedVariables false
set_option linter.unusedSectionVars false
open Go.RowKit
section
variable {P : Program} {t : TypeId} {x y : Operand}
end
end Go.Eng
