/- The road to a card of this seat: G33. Each theorem holds for every input that its own premises speak of. -/
import Derived.Test.YtaaeeiheeihjaaaDoorT9qr
import Derived.Test.YtaaeeiheeihjaaaDoorG32r
import Derived.Test.YtaaeeiheeihjaaaDoorG23
import Derived.Test.YtaaeeiheeihjaaaDoorG21
import Derived.Test.YtaaeeiheeihjaaaDoorG29r
import Derived.Test.YtaaeeiheeihjaaaDoorBLiveRefuses
set_option linter.all false
namespace Go.Ab
open Go.Proofs
theorem at_le {ls : List (List Int)} {k N : Nat} (h : ∀ q ∈ ls, q.length ≤ N) : (at' ls k).length ≤ N := by
  rcases Nat.lt_or_ge k ls.length with h1 | h1
  · exact h _ (at_mem' h1)
  · have : at' ls k = [] := by unfold at'; rw [List.getD_eq_getElem?_getD, List.getElem?_eq_none h1]; rfl
    rw [this]; exact Nat.zero_le _
theorem oks_le {c : Code} {y : Live} (hf : Fit c) (h : LiOks c y) : (∀ q ∈ y.in_, q.length ≤ 2 ^ 9) ∧ ∀ q ∈ y.out, q.length ≤ 2 ^ 9 :=
  ⟨fun l hl => by obtain ⟨b, hb, rfl⟩ := List.mem_iff_getElem.1 hl; have := (h.ok b (by have := h.li; omega)).1.len hf.rg.2; simp [at', hb] at this; omega,
   fun l hl => by obtain ⟨b, hb, rfl⟩ := List.mem_iff_getElem.1 hl; have := (h.ok b (by have := h.lo; omega)).2.len hf.rg.2; simp [at', hb] at this; omega⟩
end Go.Ab
