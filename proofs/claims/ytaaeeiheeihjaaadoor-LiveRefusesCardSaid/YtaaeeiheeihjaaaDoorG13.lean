/- The road to a card of this seat: G13. Each theorem holds for every input that its own premises speak of. -/
import Derived.Test.YtaaeeiheeihjaaaDoorG12
set_option linter.all false
namespace Go.Ab
open Go.Proofs
theorem im106 {g n : Nat} {xs : List Int} (hn : xs.length = n) (hb : n ≤ 2 ^ 20) (hs : SortedTo xs n) : Im Tryd.prog 106 [.own 0 g 1 0 n n] [rl g 3 xs] (fun r Th' e => (∃ m zs, r = .own 0 g 1 0 m n ∧ Th' = [rl g 3 zs] ∧ m ≤ n ∧ zs.length = n ∧ (zs.take m).Pairwise (· < ·) ∧ ∀ v, v ∈ zs.take m ↔ v ∈ xs) ∧ e = .all 0) := by
  refine im_fn (.all 0) fn106 (by rfl) (by rfl) (by rfl) fun X hX hF hTb => ?_
  refine wct_region_seq (by simp) ?_
  refine wot_o rfl (opt_assign_c (by rfl)) (by rfl) (by rfl) (by rfl) ?_
  refine wot_nil ?_
  (refine wct_assoc ?_)
  refine wct_region_seq (by simp) ?_
  refine wot_o rfl (opt_move (by rfl) (by rfl)) (by rfl) (by rfl) (by rfl) ?_
  refine wot_o rfl (by exact opt_len_own (by rfl) (by rfl) (by rfl) (by rfl)) (by rfl) (by rfl) (by rfl) ?_
  refine wot_o rfl (opt_cmp (by rfl) (by rfl) (by rfl) (by rfl) (by rfl)) (by rfl) (by rfl) (by rfl) ?_
  refine wot_nil ?_
  refine wct_if_seq (by rfl) (by rfl) (fun c1 => ?_) (fun c1 => ?_)
  · (refine wct_assoc ?_)
    try simp only [Int.toNat_natCast] at c1
    refine wct_region_seq (by simp) ?_
    refine wot_o rfl (opt_move (by rfl) (by rfl)) (by rfl) (by rfl) (by rfl) ?_
    refine wot_o rfl (opt_assign (by rfl) (by rfl)) (by rfl) (by rfl) (by rfl) ?_
    refine wot_nil ?_
    (refine wct_ret_seq ?_)
    refine fini_1 (by simp) rfl (by rfl) ?_
    exact ⟨n, xs, rfl, rfl, Nat.le_refl _, hn, pw_take fun a b h1 h2 => by omega, fun v => by rw [List.take_of_length_le (by omega)]⟩
  · (refine wct_skip_seq ?_; refine wct_assoc ?_)
    try simp only [Int.toNat_natCast] at c1
    refine wct_region_seq (by simp) ?_
    refine wot_o rfl (opt_assign_c (by rfl)) (by rfl) (by rfl) (by rfl) ?_
    refine wot_nil ?_
    refine wct_loop_seq (fun (k : Nat) => 0 < k ∧ k ≤ n ∧ ∀ a, 0 < a → a < k → at' xs a ≠ at' xs (a - 1)) (fun (k : Nat) => [(0, .own 0 g 1 0 n n), (3, ti (k : Int))]) (fun (k : Nat) => [rl g 3 xs]) (fun (k : Nat) => n - k) 1 (by exact ⟨rfl, rfl, trivial⟩) (by rfl) ?_ ?_
    · exact ⟨by omega, by omega, fun a h1 h2 => by omega⟩
    rintro k ⟨hk0, hk, hnd⟩
    (refine wct_assoc ?_)
    refine wct_region_seq (by simp) ?_
    refine wot_o rfl (opt_move (by rfl) (by rfl)) (by rfl) (by rfl) (by rfl) ?_
    refine wot_o rfl (opt_move (by rfl) (by rfl)) (by rfl) (by rfl) (by rfl) ?_
    refine wot_o rfl (by exact opt_len_own (by rfl) (by rfl) (by rfl) (by rfl)) (by rfl) (by rfl) (by rfl) ?_
    refine wot_o rfl (opt_cmp (by rfl) (by rfl) (by rfl) (by rfl) (by rfl)) (by rfl) (by rfl) (by rfl) ?_
    refine wot_nil ?_
    refine wct_if_seq (by rfl) (by rfl) (fun c2 => ?_) (fun c2 => ?_)
    · (refine wct_skip_seq ?_; refine wct_block_sq ?_)
      try simp only [Int.toNat_natCast] at c2
      refine wct_draw_seq (by kernel_rfl) (u := []) (by kernel_rfl) ?_
      refine wtt_o rfl (opt_move (by rfl) (by rfl)) (by rfl) (by rfl) (by rfl) ?_
      refine wtt_o rfl (opt_move (by rfl) (by rfl)) (by rfl) (by rfl) (by rfl) ?_
      refine wtt_o rfl (by exact opt_index_lN (by rfl) (by rfl) (by rfl) (by rfl) (by rfl) (by omega)) (by rfl) (by rfl) (by rfl) ?_
      refine wtt_o rfl (by exact opt_load_l1 (by rfl) (by rfl) (by rfl) (by omega) (by rfl) (by rfl)) (by rfl) (by rfl) (by rfl) ?_
      refine wtt_o rfl (opt_move (by rfl) (by rfl)) (by rfl) (by rfl) (by rfl) ?_
      refine wtt_o rfl (opt_move (by rfl) (by rfl)) (by rfl) (by rfl) (by rfl) ?_
      refine wtt_o rfl (opt_subN (by rfl) (by rfl) (by rfl) (by rfl) (by omega) (by omega)) (by rfl) (by rfl) (by rfl) ?_
      refine wtt_o rfl (by exact opt_index_lN (by rfl) (by rfl) (by rfl) (by rfl) (by rfl) (by omega)) (by rfl) (by rfl) (by rfl) ?_
      refine wtt_o rfl (by exact opt_load_l1 (by rfl) (by rfl) (by rfl) (by omega) (by rfl) (by rfl)) (by rfl) (by rfl) (by rfl) ?_
      refine wtt_o rfl (opt_cmp (by rfl) (by rfl) (by rfl) (by rfl) (by rfl)) (by rfl) (by rfl) (by rfl) ?_
      refine wtt_nil ?_
      refine ⟨trivial, ?_⟩
      refine wct_if (by rfl) (by rfl) (fun c3 => ?_) (fun c3 => ?_)
      · (skip)
        try simp only [Int.toNat_natCast] at c3
        refine wct_region_seq (by simp) ?_
        refine wot_o rfl (opt_move (by rfl) (by rfl)) (by rfl) (by rfl) (by rfl) ?_
        refine wot_o rfl (opt_move (by rfl) (by rfl)) (by rfl) (by rfl) (by rfl) ?_
        refine wot_o rfl (by exact opt_slice_own_lo (by rfl) (by rfl) (by rfl) (by rfl) (by rfl) (by omega) (by omega) (by rfl)) (by rfl) (by rfl) (by rfl) ?_
        refine wot_o rfl (opt_assign (by rfl) (by rfl)) (by rfl) (by rfl) (by rfl) ?_
        refine wot_nil ?_
        (refine wct_assoc ?_)
        refine wct_region_seq (by simp) ?_
        refine wot_o rfl (opt_assign_c (by rfl)) (by rfl) (by rfl) (by rfl) ?_
        refine wot_nil ?_
        refine wct_loop3 (fun (w : Nat) (j : Nat) (ys : List Int) => 0 < j ∧ j ≤ n - k ∧ ys.length = n ∧ CmpI xs ys (k + j) w) (fun (w : Nat) (j : Nat) (ys : List Int) => [(0, .own 0 g 1 0 n n), (3, ti (w : Int)), (4, .own 0 g 1 k (n - k) (n - k)), (5, ti (j : Int))]) (fun (w : Nat) (j : Nat) (ys : List Int) => [rl g 3 ys]) (fun (w : Nat) (j : Nat) (ys : List Int) => n - k - j) k 1 xs (by exact ⟨rfl, rfl, rfl, rfl, trivial⟩) (by rfl) ?_ ?_
        · exact ⟨by omega, by omega, hn, cmp_start hn hs hnd (by omega) hk0 c3⟩
        rintro w j ys ⟨hj0, hj, hyl, hI⟩
        (refine wct_assoc ?_)
        refine wct_region_seq (by simp) ?_
        refine wot_o rfl (opt_move (by rfl) (by rfl)) (by rfl) (by rfl) (by rfl) ?_
        refine wot_o rfl (opt_move (by rfl) (by rfl)) (by rfl) (by rfl) (by rfl) ?_
        refine wot_o rfl (by exact opt_len_own (by rfl) (by rfl) (by rfl) (by rfl)) (by rfl) (by rfl) (by rfl) ?_
        refine wot_o rfl (opt_cmp (by rfl) (by rfl) (by rfl) (by rfl) (by rfl)) (by rfl) (by rfl) (by rfl) ?_
        refine wot_nil ?_
        refine wct_if_seq (by rfl) (by rfl) (fun c4 => ?_) (fun c4 => ?_)
        · (refine wct_skip_seq ?_; refine wct_block_sq ?_)
          try simp only [Int.toNat_natCast] at c4
          have h1 := hI.wr
          have hr1 := hI.sf (k + j) (by omega)
          have hr2 := hI.sf (k + (j - 1)) (by omega)
          refine wct_draw_seq (by kernel_rfl) (u := []) (by kernel_rfl) ?_
          refine wtt_o rfl (opt_move (by rfl) (by rfl)) (by rfl) (by rfl) (by rfl) ?_
          refine wtt_o rfl (opt_move (by rfl) (by rfl)) (by rfl) (by rfl) (by rfl) ?_
          refine wtt_o rfl (by exact opt_index_ownN (by rfl) (by rfl) (by rfl) (by rfl) (by rfl) (by omega)) (by rfl) (by rfl) (by rfl) ?_
          refine wtt_o rfl (by exact opt_load_l1 (by rfl) (by rfl) (by rfl) (by omega) (by rfl) (by rfl)) (by rfl) (by rfl) (by rfl) ?_
          refine wtt_o rfl (opt_move (by rfl) (by rfl)) (by rfl) (by rfl) (by rfl) ?_
          refine wtt_o rfl (opt_move (by rfl) (by rfl)) (by rfl) (by rfl) (by rfl) ?_
          refine wtt_o rfl (opt_subN (by rfl) (by rfl) (by rfl) (by rfl) (by omega) (by omega)) (by rfl) (by rfl) (by rfl) ?_
          refine wtt_o rfl (by exact opt_index_ownN (by rfl) (by rfl) (by rfl) (by rfl) (by rfl) (by omega)) (by rfl) (by rfl) (by rfl) ?_
          refine wtt_o rfl (by exact opt_load_l1 (by rfl) (by rfl) (by rfl) (by omega) (by rfl) (by rfl)) (by rfl) (by rfl) (by rfl) ?_
          refine wtt_o rfl (opt_cmp (by rfl) (by rfl) (by rfl) (by rfl) (by rfl)) (by rfl) (by rfl) (by rfl) ?_
          refine wtt_nil ?_
          refine ⟨trivial, ?_⟩
          refine wct_if (by rfl) (by rfl) (fun c5 => ?_) (fun c5 => ?_)
          · (skip)
            try simp only [Int.toNat_natCast] at c5
            refine wct_region_seq (by simp) ?_
            refine wot_o rfl (opt_move (by rfl) (by rfl)) (by rfl) (by rfl) (by rfl) ?_
            refine wot_o rfl (opt_move (by rfl) (by rfl)) (by rfl) (by rfl) (by rfl) ?_
            refine wot_o rfl (opt_move (by rfl) (by rfl)) (by rfl) (by rfl) (by rfl) ?_
            refine wot_o rfl (opt_move (by rfl) (by rfl)) (by rfl) (by rfl) (by rfl) ?_
            refine wot_o rfl (by exact opt_index_ownN (by rfl) (by rfl) (by rfl) (by rfl) (by rfl) (by omega)) (by rfl) (by rfl) (by rfl) ?_
            refine wot_o rfl (by exact opt_load_l1 (by rfl) (by rfl) (by rfl) (by omega) (by rfl) (by rfl)) (by rfl) (by rfl) (by rfl) ?_
            refine wot_o rfl (by exact opt_index_lN (by rfl) (by rfl) (by rfl) (by rfl) (by rfl) (by omega)) (by rfl) (by rfl) (by rfl) ?_
            refine wot_of0 rfl (by exact opt_store_l (by rfl) (by rfl) (by rfl) (by rfl) (by rfl) (by trivial) (by rfl) (by omega) (by rfl) (by rfl)) (by intro i o hio h; rw [hF]; exact eff_at h) (by rfl) (by rfl) ?_
            refine wot_nil ?_
            refine wct_region (by simp) ?_
            refine wot_o rfl (opt_move (by rfl) (by rfl)) (by rfl) (by rfl) (by rfl) ?_
            refine wot_o rfl (opt_add (by rfl) (by rfl) (by rfl) (by rfl) (by constructor <;> omega)) (by rfl) (by rfl) (by rfl) ?_
            refine wot_o rfl (opt_assign (by rfl) (by rfl)) (by rfl) (by rfl) (by rfl) ?_
            refine wot_nil ?_
            (refine qbt_normal ?_; refine qst_wct ?_)
            refine wct_region (by simp) ?_
            refine wot_o rfl (opt_move (by rfl) (by rfl)) (by rfl) (by rfl) (by rfl) ?_
            refine wot_o rfl (opt_add (by rfl) (by rfl) (by rfl) (by rfl) (by constructor <;> omega)) (by rfl) (by rfl) (by rfl) ?_
            refine wot_o rfl (opt_assign (by rfl) (by rfl)) (by rfl) (by rfl) (by rfl) ?_
            refine wot_nil ?_
            (refine qst_loop ?_)
            refine rnd (w + 1, j + 1, ys.set w (at' ys (k + j))) (by (try simp only); omega) ?_ (by exact ⟨rfl, rfl, rfl, rfl, trivial⟩) (by rfl)
            try dsimp only
            refine ⟨by omega, by omega, by rw [List.length_set]; exact hyl, ?_⟩
            have c5 : at' ys (k + j) ≠ at' ys (k + (j - 1)) := c5
            rw [hr1]
            rw [hr1, hr2, show k + (j - 1) = k + j - 1 by omega] at c5
            exact cmp_ne (r := k + j) hn hs hI (by omega) c5
          · (refine wct_skip ?_; refine qbt_normal ?_; refine qst_wct ?_)
            try simp only [Int.toNat_natCast] at c5
            refine wct_region (by simp) ?_
            refine wot_o rfl (opt_move (by rfl) (by rfl)) (by rfl) (by rfl) (by rfl) ?_
            refine wot_o rfl (opt_add (by rfl) (by rfl) (by rfl) (by rfl) (by constructor <;> omega)) (by rfl) (by rfl) (by rfl) ?_
            refine wot_o rfl (opt_assign (by rfl) (by rfl)) (by rfl) (by rfl) (by rfl) ?_
            refine wot_nil ?_
            (refine qst_loop ?_)
            refine rnd (w, j + 1, ys) (by (try simp only); omega) ?_ (by exact ⟨rfl, rfl, rfl, rfl, trivial⟩) (by rfl)
            try dsimp only
            refine ⟨by omega, by omega, hyl, ?_⟩
            have c5 : ¬ at' ys (k + j) ≠ at' ys (k + (j - 1)) := c5
            rw [hr1, hr2, show k + (j - 1) = k + j - 1 by omega] at c5
            exact cmp_eq (r := k + j) hn hI (by omega) (Decidable.not_not.1 c5)
        · (refine wct_exit_seq ?_; refine qst_exit ?_; refine qbt_same ?_; refine qst_wct ?_)
          try simp only [Int.toNat_natCast] at c4
          have h1 := hI.wr
          have h2 := hI.rl
          refine wct_region_seq (by simp) ?_
          refine wot_o rfl (opt_move (by rfl) (by rfl)) (by rfl) (by rfl) (by rfl) ?_
          refine wot_o rfl (opt_move (by rfl) (by rfl)) (by rfl) (by rfl) (by rfl) ?_
          refine wot_o rfl (by exact opt_slice_own_lo (by rfl) (by rfl) (by rfl) (by rfl) (by rfl) (by omega) (by omega) (by rfl)) (by rfl) (by rfl) (by rfl) ?_
          refine wot_of0 rfl (opt_clear_tl (by rfl) (by rfl) (by rfl) (by omega) (by omega)) (by intro i o hio h; rw [hF]; exact h) (by rfl) (by rfl) ?_
          refine wot_nil ?_
          refine wct_region_seq (by simp) ?_
          refine wot_o rfl (opt_move (by rfl) (by rfl)) (by rfl) (by rfl) (by rfl) ?_
          refine wot_o rfl (opt_move (by rfl) (by rfl)) (by rfl) (by rfl) (by rfl) ?_
          refine wot_o rfl (by exact opt_slice_own_hi (by rfl) (by rfl) (by rfl) (by rfl) (by rfl) (by omega) (by omega) (by rfl)) (by rfl) (by rfl) (by rfl) ?_
          refine wot_o rfl (opt_assign (by rfl) (by rfl)) (by rfl) (by rfl) (by rfl) ?_
          refine wot_nil ?_
          (refine wct_ret ?_; refine qbt_ret ?_; refine qst_ret ?_; refine qst_ret ?_; refine qbt_ret ?_; refine qst_ret ?_)
          refine fini_1 (by simp) rfl (by rfl) ?_
          have hjn : k + j = n := by omega
          refine ⟨w, _, rfl, rfl, by omega, by simp; omega, ?_, ?_⟩
          · rw [List.take_append_of_le_length (by simp; omega), List.take_take, Nat.min_self]; exact hI.pw
          · intro v
            rw [List.take_append_of_le_length (by simp; omega), List.take_take, Nat.min_self, hI.mem, hjn, List.take_of_length_le (by omega)]
      · (refine wct_skip ?_; refine qbt_normal ?_; refine qst_wct ?_)
        try simp only [Int.toNat_natCast] at c3
        refine wct_region (by simp) ?_
        refine wot_o rfl (opt_move (by rfl) (by rfl)) (by rfl) (by rfl) (by rfl) ?_
        refine wot_o rfl (opt_add (by rfl) (by rfl) (by rfl) (by rfl) (by constructor <;> omega)) (by rfl) (by rfl) (by rfl) ?_
        refine wot_o rfl (opt_assign (by rfl) (by rfl)) (by rfl) (by rfl) (by rfl) ?_
        refine wot_nil ?_
        (refine qst_loop ?_)
        refine rnd (k + 1) (by (try simp only); omega) ?_ (by exact ⟨rfl, rfl, trivial⟩) (by rfl)
        try dsimp only
        refine ⟨by omega, by omega, fun a h1 h2 => ?_⟩
        by_cases h3 : a = k
        · rw [h3]; exact c3
        · exact hnd a h1 (by omega)
    · (refine wct_exit_seq ?_; refine qst_exit ?_; refine qbt_same ?_; refine qst_wct ?_)
      try simp only [Int.toNat_natCast] at c2
      refine wct_region_seq (by simp) ?_
      refine wot_o rfl (opt_move (by rfl) (by rfl)) (by rfl) (by rfl) (by rfl) ?_
      refine wot_o rfl (opt_assign (by rfl) (by rfl)) (by rfl) (by rfl) (by rfl) ?_
      refine wot_nil ?_
      (refine wct_ret ?_)
      refine fini_1 (by simp) rfl (by rfl) ?_
      have : k = n := by omega
      subst this
      exact ⟨k, xs, rfl, rfl, Nat.le_refl _, hn, pw_take (strict_of hs (Nat.le_refl _) hnd), fun v => by rw [List.take_of_length_le (by omega)]⟩
end Go.Ab
