/- The road to a card of this seat: T14. Each theorem holds for every input that its own premises speak of. -/
import Derived.Test.YtaaeeiheeihjaaaDoorA10
import Derived.Test.YtaaeeiheeihjaaaDoorP2r
import Derived.Test.YtaaeeiheeihjaaaDoorBLiveRefuses
set_option linter.all false
namespace Go.Ab
def hC (ls : List (List Int)) (k : Nat) (v : TV) : List TV := (ls.flatMap cls).set k v
theorem lflat_len (ls : List (List Int)) : (ls.flatMap cls).length = ls.length := by rw [flat_len]; exact Nat.mul_one _
theorem splice1 {cs : List TV} {k : Nat} {w : TV} (h : k < cs.length) : spliceT cs k [w] = cs.set k w := by
  rw [spliceT, List.set_eq_take_append_cons_drop, if_pos h]; simp
theorem lflat_set {ls : List (List Int)} {k : Nat} {l : List Int} (h : k < ls.length) : (ls.flatMap cls).set k (lst false l) = (ls.set k l).flatMap cls := by
  rw [← flat_set ls k l h]
  show _ = spliceT _ (k * 1) [lst false l]
  rw [Nat.mul_one, splice1 (by rw [lflat_len]; exact h)]
theorem hC_fill {ls : List (List Int)} {k : Nat} {v : TV} {l : List Int} (h : k < ls.length) : (hC ls k v).set k (lst false l) = (ls.set k l).flatMap cls := by
  rw [hC, List.set_set, lflat_set h]
section
variable {P : Program} {X : Cx} {E : TEnv} {Th : List Root}
theorem opt_store_h0 {t : TypeId} {x y : Operand} {i g n k : Nat} {e : TypeId} {ls : List (List Int)} {v : TV} {ag : Bool} [hT : TyI P t ag 1] (hx : evTV E x = some (.pt i g n)) (hy : evTV E y = some v) (hi : Th[i]? = some (rl g e ls)) (o1 : okOpd P x = true) (o2 : okOpd P y = true) (hv : v.noTup) (hc : v.cells = [v]) (hn : n = k * 1) (hk : k < ls.length) :
    OpT P X E Th (.store t x y) (.tup []) (Th.set i ⟨g, some (e, hC ls k v)⟩) (.at i n (n + 1)) := by
  subst hn
  have := opt_store (X := X) (hT := hT) hx hy hi o1 o2 hv (by rw [hc]; rfl) (by rw [Nat.ble_eq, lflat_len]; omega) (by rfl)
  rw [hc, Nat.mul_one, splice1 (by rw [lflat_len]; exact hk)] at this
  rw [Nat.mul_one]
  exact this
end
def chgL (l : List Int) (r : Int) : List Int := if (woI l r).length = l.length then addI l r else woI l r
end Go.Ab
