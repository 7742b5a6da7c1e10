/- The road to a card of this seat: G12. Each theorem holds for every input that its own premises speak of. -/
import Derived.Test.YtaaeeiheeihjaaaDoorG11
set_option linter.all false
namespace Go.Ab
open Go.Proofs
set_option maxRecDepth 100000 in
theorem conv3100 (n : Int) : pureV Tryd.prog (convert 3 100 (.int .i64 n)) = some (.int .u64 (IntKind.u64.wrap n)) := by rfl
theorem conv3100n {n : Nat} (h : n < 256) : pureV Tryd.prog (convert 3 100 (.int .i64 (n : Int))) = some (.int .u64 (n : Int)) := by rw [conv3100, wrapU _ (by omega)]
theorem im103 {g n : Nat} {m : Int} {xs : List Int} (hn : xs.length = n) (hb : n ≤ 12) : Im Tryd.prog 103 [.own 0 g 1 0 n n, ti 0, ti (n : Int), ti m] [rl g 3 xs] (fun r Th' e => (∃ ys, Th' = [rl g 3 ys] ∧ ys.length = n ∧ SortedTo ys n ∧ ∀ r, r ∈ ys ↔ r ∈ xs) ∧ e = .all 0) := by
  refine im_fn (.all 0) fn103 (by rfl) (by rfl) (by rfl) fun X hX hF hTb => ?_
  refine wct_region_seq (by simp) ?_
  refine wot_o rfl (opt_assign_c (by rfl)) (by rfl) (by rfl) (by rfl) ?_
  refine wot_nil ?_
  refine wct_region_seq (by simp) ?_
  refine wot_o rfl (opt_assign_c (by rfl)) (by rfl) (by rfl) (by rfl) ?_
  refine wot_nil ?_
  refine wct_loop1 (fun (u : Nat) => True) (fun (u : Nat) => [(0, .own 0 g 1 0 n n), (1, ti 0), (2, ti (n : Int)), (8, tb true)]) (fun (u : Nat) => [rl g 3 xs]) (fun (u : Nat) => 0) 0 (by exact ⟨rfl, rfl, rfl, rfl, trivial⟩) (by rfl) ?_ ?_
  · simp
  rintro u _
  (refine wct_block1 ?_)
  refine wct_region_seq (by simp) ?_
  refine wot_o rfl (opt_move (by rfl) (by rfl)) (by rfl) (by rfl) (by rfl) ?_
  refine wot_o rfl (opt_move (by rfl) (by rfl)) (by rfl) (by rfl) (by rfl) ?_
  refine wot_o rfl (opt_sub (by rfl) (by rfl) (by rfl) (by rfl) (by constructor <;> omega)) (by rfl) (by rfl) (by rfl) ?_
  refine wot_o rfl (opt_assign (by rfl) (by rfl)) (by rfl) (by rfl) (by rfl) ?_
  refine wot_nil ?_
  (refine wct_assoc ?_)
  refine wct_region_seq (by simp) ?_
  refine wot_o rfl (opt_move (by rfl) (by rfl)) (by rfl) (by rfl) (by rfl) ?_
  refine wot_o rfl (opt_cmp (by rfl) (by rfl) (by rfl) (by rfl) (by rfl)) (by rfl) (by rfl) (by rfl) ?_
  refine wot_nil ?_
  refine wct_if_seq (by rfl) (by rfl) (fun c1 => ?_) (fun c1 => ?_)
  · (refine wct_assoc ?_)
    try simp only [Int.toNat_natCast] at c1
    refine wct_region_seq (by simp) ?_
    refine wot_o rfl (opt_move (by rfl) (by rfl)) (by rfl) (by rfl) (by rfl) ?_
    refine wot_o rfl (opt_move (by rfl) (by rfl)) (by rfl) (by rfl) (by rfl) ?_
    refine wot_o rfl (opt_move (by rfl) (by rfl)) (by rfl) (by rfl) (by rfl) ?_
    refine wot_ci hTb rfl (call_bin (by rfl) (by rfl)) (im107 hn (by omega)) (fun _ _ _ h => h.2) (by intro i o hio h; rw [hF]; exact h) (by rfl) (by rfl) (by rfl) ?_
    rintro r Th' ⟨⟨ys, rfl, hyl, hys, hym⟩, _⟩
    refine wot_nil ?_
    (refine wct_ret_seq ?_; refine qbt_ret ?_; refine qst_ret ?_; refine qbt_ret ?_)
    refine fini_0 (by simp) rfl ?_
    exact ⟨ys, rfl, hyl, hys, hym⟩
  · (refine wct_skip_seq ?_; refine wct_assoc ?_)
    try simp only [Int.toNat_natCast] at c1
    exfalso; omega
theorem im90 {g n : Nat} {xs : List Int} (hn : xs.length = n) (hb : n ≤ 12) : Im Tryd.prog 90 [.own 0 g 1 0 n n] [rl g 3 xs] (fun r Th' e => (∃ ys, Th' = [rl g 3 ys] ∧ ys.length = n ∧ SortedTo ys n ∧ ∀ r, r ∈ ys ↔ r ∈ xs) ∧ e = .all 0) := by
  have hn256 : n < 256 := by omega
  refine im_fn (.all 0) fn90 (by rfl) (by rfl) (by rfl) fun X hX hF hTb => ?_
  refine wct_region_seq (by simp) ?_
  refine wot_o rfl (opt_move (by rfl) (by rfl)) (by rfl) (by rfl) (by rfl) ?_
  refine wot_o rfl (by exact opt_len_own (by rfl) (by rfl) (by rfl) (by rfl)) (by rfl) (by rfl) (by rfl) ?_
  refine wot_o rfl (opt_assign (by rfl) (by rfl)) (by rfl) (by rfl) (by rfl) ?_
  refine wot_nil ?_
  refine wct_region (by simp) ?_
  refine wot_o rfl (opt_move (by rfl) (by rfl)) (by rfl) (by rfl) (by rfl) ?_
  refine wot_o rfl (opt_move (by rfl) (by rfl)) (by rfl) (by rfl) (by rfl) ?_
  refine wot_o rfl (opt_move (by rfl) (by rfl)) (by rfl) (by rfl) (by rfl) ?_
  refine wot_o rfl (opt_conv (by rfl) (by rfl) (conv3100n hn256) (by rfl) (by rfl)) (by rfl) (by rfl) (by rfl) ?_
  refine wot_ce hTb rfl (call_bin (by rfl) (by rfl)) (by refine Drs.cons (by exact Dr.cl (by exact Cl.v _)) ?_; exact Drs.nil) (pu104 hn256) (by (rintro r ⟨x, rfl, h⟩; exact Cl.v _)) (by rfl) (by rfl) (by rfl) ?_
  rintro r ⟨m, rfl, hm⟩
  refine wot_ci hTb rfl (call_bin (by rfl) (by rfl)) (im103 hn (by omega)) (fun _ _ _ h => h.2) (by intro i o hio h; rw [hF]; exact h) (by rfl) (by rfl) (by rfl) ?_
  rintro r Th' ⟨⟨ys, rfl, hyl, hys, hym⟩, _⟩
  refine wot_nil ?_
  refine fini_0 (by simp) rfl ?_
  exact ⟨ys, rfl, hyl, hys, hym⟩
end Go.Ab
