/- The road to a card of this seat: G32. Each theorem holds for every input that its own premises speak of. -/
import Derived.Test.YtaaeeiheeihjaaaDoorT9qr
import Derived.Test.YtaaeeiheeihjaaaDoorG31r
import Derived.Test.YtaaeeiheeihjaaaDoorG28
import Derived.Test.YtaaeeiheeihjaaaDoorBLiveRefuses
set_option linter.all false
namespace Go.Ab
open Go.Proofs
structure Chg3 where
  kd : Nat
  bl : Nat
  rg : Nat
instance : Enc Chg3 := ⟨3, fun z => .agg [.v (.int .u8 (z.kd : Int)), .v (.int .u8 (z.bl : Int)), .v (.int .u8 (z.rg : Int))], ⟨0, 0, 0⟩, fun _ => rfl, fun _ => cl_agg rfl, fun _ => rfl, by decide⟩
end Go.Ab
