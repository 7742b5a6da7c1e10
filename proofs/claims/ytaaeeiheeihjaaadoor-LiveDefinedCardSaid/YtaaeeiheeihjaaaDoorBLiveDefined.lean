/- Lemmas on the road to a card of this seat. Each holds for every input that its own premises speak of. -/
import Derived.Test.YtaaeeiheeihjaaaDoorA8
set_option linter.all false
namespace Go.Ab
open Go.Proofs
theorem fn7 : Tryd.prog.funcs[7]? = some Tryd.f7 := by kernel_rfl
theorem fn29 : Tryd.prog.funcs[29]? = some Tryd.f29 := by kernel_rfl

end Go.Ab
