/- The road to a card of this seat: G4. Each theorem holds for every input that its own premises speak of. -/
import Derived.Test.YtaaeeiheeihjaaaDoorG3
set_option linter.all false
namespace Go.Ab
open Go.Proofs
theorem dfnT_kind {t : Term} (h : 0 ≤ dfnT t) : t.d.kind = 2 := by
  unfold dfnT opdReg at h; split at h
  · assumption
  · omega
end Go.Ab
