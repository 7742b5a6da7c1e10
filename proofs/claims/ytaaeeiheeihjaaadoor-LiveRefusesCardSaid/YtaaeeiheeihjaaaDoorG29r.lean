/- The road to a card of this seat: G29. Each theorem holds for every input that its own premises speak of. -/
import Derived.Test.YtaaeeiheeihjaaaDoorT9qr
import Derived.Test.YtaaeeiheeihjaaaDoorG28
import Derived.Test.YtaaeeiheeihjaaaDoorG23
import Derived.Test.YtaaeeiheeihjaaaDoorA9
import Derived.Test.YtaaeeiheeihjaaaDoorBLiveRefuses
set_option linter.all false
namespace Go.Ab
open Go.Proofs
end Go.Ab
