/- Lemmas on the road to a card of this seat. Each holds for every input that its own premises speak of. -/
import Derived.Test.YtaaeeiheeihjaaaDoorA8
set_option linter.all false
namespace Go.Ab
open Go.Proofs
theorem fn5 : Tryd.prog.funcs[5]? = some Tryd.f5 := by kernel_rfl
theorem fn15 : Tryd.prog.funcs[15]? = some Tryd.f15 := by kernel_rfl

end Go.Ab
