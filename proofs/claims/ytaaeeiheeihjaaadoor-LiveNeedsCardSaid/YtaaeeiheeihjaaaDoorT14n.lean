/- The road to a card of this seat: T14. Each theorem holds for every input that its own premises speak of. -/
import Derived.Test.YtaaeeiheeihjaaaDoorA10
import Derived.Test.YtaaeeiheeihjaaaDoorP2n
import Derived.Test.YtaaeeiheeihjaaaDoorBLiveNeeds
set_option linter.all false
namespace Go.Ab
/-- The cells of a table of lists, but cell k is v. -/
def hC (ls : List (List Int)) (k : Nat) (v : TV) : List TV := (ls.flatMap cls).set k v
theorem lflat_len (ls : List (List Int)) : (ls.flatMap cls).length = ls.length := by rw [flat_len]; exact Nat.mul_one _
theorem hC_len {ls : List (List Int)} {k : Nat} {v : TV} : (hC ls k v).length = ls.length := by rw [hC, List.length_set, lflat_len]
theorem splice1 {cs : List TV} {k : Nat} {w : TV} (h : k < cs.length) : spliceT cs k [w] = cs.set k w := by
  rw [spliceT, List.set_eq_take_append_cons_drop, if_pos h]; simp
theorem lflat_set {ls : List (List Int)} {k : Nat} {l : List Int} (h : k < ls.length) : (ls.flatMap cls).set k (lst false l) = (ls.set k l).flatMap cls := by
  rw [← flat_set ls k l h]
  show _ = spliceT _ (k * 1) [lst false l]
  rw [Nat.mul_one, splice1 (by rw [lflat_len]; exact h)]
theorem hC_fill {ls : List (List Int)} {k : Nat} {v : TV} {l : List Int} (h : k < ls.length) : (hC ls k v).set k (lst false l) = (ls.set k l).flatMap cls := by
  rw [hC, List.set_set, lflat_set h]
section
variable {P : Program} {X : Cx} {E : TEnv} {Th : List Root}
theorem opt_store_h0 {t : TypeId} {x y : Operand} {i g n k : Nat} {e : TypeId} {ls : List (List Int)} {v : TV} {ag : Bool} [hT : TyI P t ag 1] (hx : evTV E x = some (.pt i g n)) (hy : evTV E y = some v) (hi : Th[i]? = some (rl g e ls)) (o1 : okOpd P x = true) (o2 : okOpd P y = true) (hv : v.noTup) (hc : v.cells = [v]) (hn : n = k * 1) (hk : k < ls.length) :
    OpT P X E Th (.store t x y) (.tup []) (Th.set i ⟨g, some (e, hC ls k v)⟩) (.at i n (n + 1)) := by
  subst hn
  have := opt_store (X := X) (hT := hT) hx hy hi o1 o2 hv (by rw [hc]; rfl) (by rw [Nat.ble_eq, lflat_len]; omega) (by rfl)
  rw [hc, Nat.mul_one, splice1 (by rw [lflat_len]; exact hk)] at this
  rw [Nat.mul_one]
  exact this
theorem opt_load_h {t : TypeId} {x : Operand} {i g n k m : Nat} {e : TypeId} {ls : List (List Int)} {v : TV} [hT : TyI P t false m] (hx : evTV E x = some (.pt i g n)) (hi : Th[i]? = some ⟨g, some (e, hC ls k v)⟩) (o1 : okOpd P x = true) (hn : n = k * 1) (hk : k < ls.length) : OpT P X E Th (.load t x) v Th .no := by
  subst hn
  exact opt_load_pt_1 (X := X) (hT := hT) hx hi o1 (by rw [Nat.mul_one, hC, List.getElem?_set, if_pos rfl, if_pos (by rw [lflat_len]; exact hk)])
theorem opt_store_h1 {t : TypeId} {x y : Operand} {i g n k : Nat} {e : TypeId} {ls : List (List Int)} {v w : TV} {ag : Bool} [hT : TyI P t ag 1] (hx : evTV E x = some (.pt i g n)) (hy : evTV E y = some w) (hi : Th[i]? = some ⟨g, some (e, hC ls k v)⟩) (o1 : okOpd P x = true) (o2 : okOpd P y = true) (hv : w.noTup) (hc : w.cells = [w]) (hn : n = k * 1) (hk : k < ls.length) :
    OpT P X E Th (.store t x y) (.tup []) (Th.set i ⟨g, some (e, hC ls k w)⟩) (.at i n (n + 1)) := by
  subst hn
  have := opt_store (X := X) (hT := hT) hx hy hi o1 o2 hv (by rw [hc]; rfl) (by rw [Nat.ble_eq, hC_len]; omega) (by rfl)
  rw [hc, Nat.mul_one, splice1 (by rw [hC_len]; exact hk), hC, List.set_set] at this
  rw [Nat.mul_one]
  exact this
theorem opt_store_hl {t : TypeId} {x y : Operand} {i g n k : Nat} {e : TypeId} {ls : List (List Int)} {v : TV} {l : List Int} {ag : Bool} [hT : TyI P t ag 1] (hx : evTV E x = some (.pt i g n)) (hy : evTV E y = some (lst false l)) (hi : Th[i]? = some ⟨g, some (e, hC ls k v)⟩) (o1 : okOpd P x = true) (o2 : okOpd P y = true) (hn : n = k * 1) (hk : k < ls.length) :
    OpT P X E Th (.store t x y) (.tup []) (Th.set i (rl g e (ls.set k l))) (.at i n (n + 1)) := by
  have := opt_store_h1 (X := X) (hT := hT) hx hy hi o1 o2 trivial rfl hn hk
  rw [hC, lflat_set hk] at this
  exact this
theorem opt_remNB {t u : TypeId} {x y : Operand} {a b : Nat} {d : Int} (hx : evTV E x = some (ti (a : Int))) (hy : evTV E y = some (ti d)) (o1 : okOpd P x = true) (o2 : okOpd P y = true) (hd : d = (b : Int)) (hb : 0 < b) : OpT P X E Th (.binOp .rem t x y u) (ti ((a % b : Nat) : Int)) Th .no := by
  subst hd; exact opt_remNN hx hy o1 o2 hb
theorem opt_remU8 {t u : TypeId} {x y : Operand} {a : Nat} (hx : evTV E x = some (.v (.int .u8 (a : Int)))) (hy : evTV E y = some (.v (.int .u8 2))) (o1 : okOpd P x = true) (o2 : okOpd P y = true) : OpT P X E Th (.binOp .rem t x y u) (.v (.int .u8 ((a % 2 : Nat) : Int))) Th .no := by
  refine opt_ibin hx hy o1 o2 ?_ rfl
  have h2 : (a : Int).tmod 2 = ((a % 2 : Nat) : Int) := by rw [Int.tmod_eq_emod_of_nonneg (by omega)]; simp
  simp [ibin, h2]
end
/-- A list with a register taken away, or added if it is not there. -/
def chgL (l : List Int) (r : Int) : List Int := if (woI l r).length = l.length then addI l r else woI l r
theorem woI_succ {l : List Int} {r : Int} {k : Nat} (h : k < l.length) : woI (l.take (k + 1)) r = if at' l k ≠ r then woI (l.take k) r ++ [at' l k] else woI (l.take k) r := by
  rw [take_succ h, woI, List.filter_append]
  by_cases e : at' l k = r
  · simp [e, woI]
  · simp [e, woI]
theorem chgL_len (l : List Int) (r : Int) : (chgL l r).length ≤ l.length + 1 := by
  unfold chgL
  split
  · exact addI_len l r
  · have := woI_len l r; omega
end Go.Ab
