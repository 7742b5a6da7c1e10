/- The road to a card of this seat: G31. Each theorem holds for every input that its own premises speak of. -/
import Derived.Test.YtaaeeiheeihjaaaDoorT9qr
import Derived.Test.YtaaeeiheeihjaaaDoorT14r
import Derived.Test.YtaaeeiheeihjaaaDoorG5
import Derived.Test.YtaaeeiheeihjaaaDoorBLiveRefuses
set_option linter.all false
namespace Go.Ab
open Go.Proofs
set_option maxRecDepth 100000 in
theorem convU8n {n : Nat} (h : n < 2 ^ 63) : pureV Tryd.prog (convert 5 3 (.int .u8 (n : Int))) = some (.int .i64 (n : Int)) := (show pureV Tryd.prog (convert 5 3 (.int .u8 (n : Int))) = some (.int .i64 (IntKind.i64.wrap n)) by rfl).trans (by rw [wrap64n h])
def chg (c : Code) (x : Live) (kd bl rg : Nat) : Live := if kd % 2 = 1 then ⟨x.in_, x.out.set (bl % c.b.length) (chgL (at' x.out (bl % c.b.length)) (((rg % (c.regs + 2).toNat : Nat) : Int) - 1))⟩ else ⟨x.in_.set (bl % c.b.length) (chgL (at' x.in_ (bl % c.b.length)) (((rg % (c.regs + 2).toNat : Nat) : Int) - 1)), x.out⟩
end Go.Ab
