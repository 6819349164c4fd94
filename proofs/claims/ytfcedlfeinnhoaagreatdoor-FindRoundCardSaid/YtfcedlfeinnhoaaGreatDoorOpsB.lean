/- More operations: <= and >= of strings, exclusive or of unsigned numbers. No condition. -/
import Derived.Test.YtfcedlfeinnhoaaGreatDoorMapR
namespace Go.Eng
open Go.RowKit
set_option linter.unusedSimpArgs false
set_option linter.unusedVariables false
section
variable {P : Program} {t : TypeId} {x y : Operand}
end
end Go.Eng
