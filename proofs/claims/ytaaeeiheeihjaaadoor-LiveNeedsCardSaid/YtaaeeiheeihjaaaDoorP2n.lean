/- The road to a card of this seat: P2. Each theorem holds for every input that its own premises speak of. -/
import Derived.Test.YtaaeeiheeihjaaaDoorA9
import Derived.Test.YtaaeeiheeihjaaaDoorBLiveNeeds
set_option linter.all false
namespace Go.Ab
theorem atI_step {is : List Inst} {out : List Int} {k : Nat} (h : k < is.length) : atI is out k = beforeI (at' is k) (atI is out (k + 1)) := by
  unfold atI
  rw [List.drop_eq_getElem_cons h, List.foldr_cons]
  simp [at', h]
theorem live_use {is : List Inst} {out : List Int} {i : Nat} {r : Int} (hi : i < is.length) (hu : r ∈ usesI (at' is i)) (hd : ∀ j, j < i → dfn (at' is j) ≠ r) : r ∈ atI is out 0 := by
  have key : ∀ m, m ≤ i → r ∈ atI is out (i - m) := by
    intro m
    induction m with
    | zero => intro _; rw [Nat.sub_zero, atI_step hi]; exact mem_beforeI.2 (.inr hu)
    | succ m ih =>
      intro hm
      rw [atI_step (show i - (m + 1) < is.length by omega), show i - (m + 1) + 1 = i - m by omega]
      exact mem_beforeI.2 (.inl ⟨ih (by omega), fun e => hd (i - (m + 1)) (by omega) e.symm⟩)
  have := key i (Nat.le_refl _)
  rwa [Nat.sub_self] at this
theorem live_def {is : List Inst} {out : List Int} {i : Nat} {d : Int} (hi : i < is.length) (hd : dfn (at' is i) = d) (h : d ∈ atI is out 0) : ∃ j, j ≤ i ∧ d ∈ usesI (at' is j) := by
  refine Decidable.by_contra fun hn => ?_
  have hu : ∀ j, j ≤ i → d ∉ usesI (at' is j) := fun j hj hm => hn ⟨j, hj, hm⟩
  have key : ∀ m, m ≤ i → d ∉ atI is out (i - m) := by
    intro m
    induction m with
    | zero =>
      intro _ hm
      rw [Nat.sub_zero, atI_step hi] at hm
      rcases mem_beforeI.1 hm with ⟨_, h2⟩ | h2
      · exact h2 hd.symm
      · exact hu i (Nat.le_refl _) h2
    | succ m ih =>
      intro hm hx
      rw [atI_step (show i - (m + 1) < is.length by omega), show i - (m + 1) + 1 = i - m by omega] at hx
      rcases mem_beforeI.1 hx with ⟨h1, _⟩ | h2
      · exact ih (by omega) h1
      · exact hu _ (by omega) h2
  have := key i (Nat.le_refl _)
  rw [Nat.sub_self] at this
  exact this h
/-- What has been defined so far. -/
structure Done (is : List Inst) (i : Nat) (ds : List Int) : Prop where
  all : ∀ j, j < i → 0 ≤ dfn (at' is j) → dfn (at' is j) ∈ ds
  len : ds.length ≤ i
theorem Done.start (is : List Inst) : Done is 0 [] := ⟨fun j h => absurd h (by omega), Nat.le_refl _⟩
theorem Done.skip {is : List Inst} {i : Nat} {ds : List Int} (h : Done is i ds) (hd : 0 ≤ dfn (at' is i) → dfn (at' is i) ∈ ds) : Done is (i + 1) ds :=
  ⟨fun j hj h0 => by
    rcases Nat.lt_or_ge j i with h1 | h1
    · exact h.all j h1 h0
    · obtain rfl : j = i := by omega
      exact hd h0, by have := h.len; omega⟩
theorem Done.add {is : List Inst} {i : Nat} {ds : List Int} (h : Done is i ds) : Done is (i + 1) (ds ++ [dfn (at' is i)]) :=
  ⟨fun j hj h0 => by
    rcases Nat.lt_or_ge j i with h1 | h1
    · exact List.mem_append.2 (.inl (h.all j h1 h0))
    · obtain rfl : j = i := by omega
      simp, by have := h.len; rw [List.length_append, List.length_singleton]; omega⟩
theorem usesI_nn {c : Code} (hf : Fit c) {b i : Nat} (hb : b < c.b.length) (hi : i < (at' c.b b).i.length) : ∀ r ∈ usesI (at' (at' c.b b).i i), 0 ≤ r := fun r hr => ((hf.rd _ (at_memG hb) _ (at_memG hi)).2.1 r hr).1
end Go.Ab
