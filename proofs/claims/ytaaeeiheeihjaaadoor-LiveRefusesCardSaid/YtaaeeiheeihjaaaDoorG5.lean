/- The road to a card of this seat: G5. Each theorem holds for every input that its own premises speak of. -/
import Derived.Test.YtaaeeiheeihjaaaDoorG4
set_option linter.all false
namespace Go.Ab
open Go.Proofs
end Go.Ab
