/- The road to a card of this seat: P2. Each theorem holds for every input that its own premises speak of. -/
import Derived.Test.YtaaeeiheeihjaaaDoorA9
import Derived.Test.YtaaeeiheeihjaaaDoorBLiveRefuses
set_option linter.all false
namespace Go.Ab
structure Done (is : List Inst) (i : Nat) (ds : List Int) : Prop where
  all : ∀ j, j < i → 0 ≤ dfn (at' is j) → dfn (at' is j) ∈ ds
  len : ds.length ≤ i
theorem Done.start (is : List Inst) : Done is 0 [] := ⟨fun j h => absurd h (by omega), Nat.le_refl _⟩
theorem Done.skip {is : List Inst} {i : Nat} {ds : List Int} (h : Done is i ds) (hd : 0 ≤ dfn (at' is i) → dfn (at' is i) ∈ ds) : Done is (i + 1) ds :=
  ⟨fun j hj h0 => by
    rcases Nat.lt_or_ge j i with h1 | h1
    · exact h.all j h1 h0
    · obtain rfl : j = i := by omega
      exact hd h0, by have := h.len; omega⟩
end Go.Ab
