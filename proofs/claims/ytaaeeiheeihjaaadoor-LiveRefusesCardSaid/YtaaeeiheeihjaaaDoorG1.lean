/- The road to a card of this seat: G1. Each theorem holds for every input that its own premises speak of. -/
import Derived.Test.YtaaeeiheeihjaaaDoorA9
set_option linter.all false
namespace Go.Ab
open Go.Proofs
theorem at_mem {xs : List Int} {k : Nat} (h : k < xs.length) : at' xs k ∈ xs := by
  simp [at', h]
theorem take_succ_mem {xs : List Int} {k : Nat} {n : Int} (h : k < xs.length) : n ∈ xs.take (k + 1) ↔ n ∈ xs.take k ∨ at' xs k = n := by
  rw [take_succ h]; simp [eq_comm]
theorem take_all {α : Type} {xs : List α} {k : Nat} (h1 : k ≤ xs.length) (h2 : ¬ (k : Int) < (xs.length : Int)) : xs.take k = xs := List.take_of_length_le (by omega)
theorem pu27 {t : Bool} {xs : List Int} {n : Int} : Pu Tryd.prog 27 [lst t xs, ti n] (Eq (tb (decide (n ∈ xs)))) := by
  refine pu_fn fn27 (by rfl) (by rfl) (by rfl) fun X hX hTb => ?_
  refine wct_region_seq (by simp) ?_
  refine wot_o rfl (opt_assign_c (by rfl)) (by rfl) (by rfl) (by rfl) ?_
  refine wot_nil ?_
  (refine wct_assoc ?_)
  refine wct_region_seq (by simp) ?_
  refine wot_o rfl (opt_assign_c (by rfl)) (by rfl) (by rfl) (by rfl) ?_
  refine wot_nil ?_
  refine wct_fact (f_len (d := 0) rfl) fun hl => ?_
  refine wct_loop_seq (fun (k : Nat) => k ≤ xs.length ∧ n ∉ xs.take k) (fun (k : Nat) => [(0, lst t xs), (1, ti n), (5, ti (k : Int))]) (fun (k : Nat) => []) (fun (k : Nat) => xs.length - k) 0 (by exact ⟨rfl, rfl, rfl, trivial⟩) (by rfl) ?_ ?_
  · simp
  rintro k ⟨hk, hn⟩
  (refine wct_assoc ?_)
  refine wct_region_seq (by simp) ?_
  refine wot_o rfl (opt_move (by rfl) (by rfl)) (by rfl) (by rfl) (by rfl) ?_
  refine wot_o rfl (opt_move (by rfl) (by rfl)) (by rfl) (by rfl) (by rfl) ?_
  refine wot_o rfl (by exact opt_len_fz (by rfl) (by rfl) (by rfl)) (by rfl) (by rfl) (by rfl) ?_
  refine wot_o rfl (opt_cmp (by rfl) (by rfl) (by rfl) (by rfl) (by rfl)) (by rfl) (by rfl) (by rfl) ?_
  refine wot_nil ?_
  refine wct_if_seq (by rfl) (by rfl) (fun c1 => ?_) (fun c1 => ?_)
  · (refine wct_skip_seq ?_; refine wct_block_sq ?_)
    try simp only [Int.toNat_natCast] at c1
    refine wct_region_seq (by simp) ?_
    refine wot_o rfl (opt_move (by rfl) (by rfl)) (by rfl) (by rfl) (by rfl) ?_
    refine wot_o rfl (opt_move (by rfl) (by rfl)) (by rfl) (by rfl) (by rfl) ?_
    refine wot_o rfl (by exact opt_index_lstN (by rfl) (by rfl) (by rfl) (by rfl) (by omega) (by rfl)) (by rfl) (by rfl) (by rfl) ?_
    refine wot_o rfl (by exact opt_load_fp_1 (by rfl) (by rfl) (by rfl)) (by rfl) (by rfl) (by rfl) ?_
    refine wot_o rfl (opt_move (by rfl) (by rfl)) (by rfl) (by rfl) (by rfl) ?_
    refine wot_o rfl (opt_cmp (by rfl) (by rfl) (by rfl) (by rfl) (by rfl)) (by rfl) (by rfl) (by rfl) ?_
    refine wot_nil ?_
    refine wct_if (by rfl) (by rfl) (fun c2 => ?_) (fun c2 => ?_)
    · (skip)
      try simp only [Int.toNat_natCast] at c2
      refine wct_region_seq (by simp) ?_
      refine wot_o rfl (opt_assign_c (by rfl)) (by rfl) (by rfl) (by rfl) ?_
      refine wot_nil ?_
      (refine wct_ret ?_; refine qbt_ret ?_; refine qst_ret ?_; refine qst_ret ?_; refine qbt_ret ?_; refine qst_ret ?_)
      refine fin_1c (by simp) rfl (by rfl) (by exact Cl.v _) ?_
      have : n ∈ xs := by rw [← c2]; exact at_mem (by omega)
      simp [this]
    · (refine wct_skip ?_; refine qbt_normal ?_; refine qst_wct ?_)
      try simp only [Int.toNat_natCast] at c2
      refine wct_region (by simp) ?_
      refine wot_o rfl (opt_move (by rfl) (by rfl)) (by rfl) (by rfl) (by rfl) ?_
      refine wot_o rfl (opt_add (by rfl) (by rfl) (by rfl) (by rfl) (by constructor <;> omega)) (by rfl) (by rfl) (by rfl) ?_
      refine wot_o rfl (opt_assign (by rfl) (by rfl)) (by rfl) (by rfl) (by rfl) ?_
      refine wot_nil ?_
      (refine qst_loop ?_)
      refine rnd (k + 1) (by (try simp only); omega) ?_ (by exact ⟨rfl, rfl, rfl, trivial⟩) (by rfl)
      try dsimp only
      refine ⟨by omega, ?_⟩
      rw [take_succ_mem (by omega)]
      rintro (h | h)
      · exact hn h
      · exact c2 h
  · (refine wct_exit_seq ?_; refine qst_exit ?_; refine qbt_same ?_; refine qst_wct ?_)
    try simp only [Int.toNat_natCast] at c1
    refine wct_region_seq (by simp) ?_
    refine wot_o rfl (opt_assign_c (by rfl)) (by rfl) (by rfl) (by rfl) ?_
    refine wot_nil ?_
    (refine wct_ret ?_)
    refine fin_1c (by simp) rfl (by rfl) (by exact Cl.v _) ?_
    rw [take_all hk c1] at hn
    simp [hn]
theorem pu28 {i : Inst} : Pu Tryd.prog 28 [Enc.tv i] (Eq (ti (dfn i))) := by
  refine pu_fn fn28 (by rfl) (by rfl) (by rfl) fun X hX hTb => ?_
  refine wct_region_seq (by simp) ?_
  refine wot_o rfl (opt_box_fz (by rfl) (by rfl) (by trivial)) (by rfl) (by rfl) (by rfl) ?_
  refine wot_o rfl (opt_assign_c (by rfl)) (by rfl) (by rfl) (by rfl) ?_
  refine wot_nil ?_
  (refine wct_assoc ?_)
  refine wct_region_seq (by simp) ?_
  refine wot_o rfl (by exact opt_fieldAddr_fp (by rfl) (by rfl)) (by rfl) (by rfl) (by rfl) ?_
  refine wot_o rfl (by exact opt_fieldAddr_fp (by rfl) (by rfl)) (by rfl) (by rfl) (by rfl) ?_
  refine wot_o rfl (by exact opt_load_fp_1 (by rfl) (by rfl) (by rfl)) (by rfl) (by rfl) (by rfl) ?_
  refine wot_o rfl (opt_cmp (by rfl) (by rfl) (by rfl) (by rfl) (by rfl)) (by rfl) (by rfl) (by rfl) ?_
  refine wot_nil ?_
  refine wct_if_seq (by rfl) (by rfl) (fun c1 => ?_) (fun c1 => ?_)
  · (refine wct_assoc ?_)
    try simp only [Int.toNat_natCast] at c1
    refine wct_region_seq (by simp) ?_
    refine wot_o rfl (by exact opt_fieldAddr_fp (by rfl) (by rfl)) (by rfl) (by rfl) (by rfl) ?_
    refine wot_o rfl (by exact opt_fieldAddr_fp (by rfl) (by rfl)) (by rfl) (by rfl) (by rfl) ?_
    refine wot_o rfl (by exact opt_load_fp_1 (by rfl) (by rfl) (by rfl)) (by rfl) (by rfl) (by rfl) ?_
    refine wot_o rfl (opt_assign (by rfl) (by rfl)) (by rfl) (by rfl) (by rfl) ?_
    refine wot_nil ?_
    (refine wct_ret_seq ?_)
    refine fin_1c (by simp) rfl (by rfl) (by exact Cl.v _) ?_
    simp [dfn, opdReg, c1]
  · (refine wct_skip_seq ?_)
    try simp only [Int.toNat_natCast] at c1
    refine wct_region_seq (by simp) ?_
    refine wot_o rfl (opt_assign_c (by rfl)) (by rfl) (by rfl) (by rfl) ?_
    refine wot_nil ?_
    (refine wct_ret ?_)
    refine fin_1c (by simp) rfl (by rfl) (by exact Cl.v _) ?_
    simp [dfn, opdReg, c1]
theorem pu63 {t : Term} : Pu Tryd.prog 63 [Enc.tv t] (Eq (ti (dfnT t))) := by
  refine pu_fn fn63 (by rfl) (by rfl) (by rfl) fun X hX hTb => ?_
  refine wct_region_seq (by simp) ?_
  refine wot_o rfl (opt_box_fz (by rfl) (by rfl) (by trivial)) (by rfl) (by rfl) (by rfl) ?_
  refine wot_o rfl (opt_assign_c (by rfl)) (by rfl) (by rfl) (by rfl) ?_
  refine wot_nil ?_
  (refine wct_assoc ?_)
  refine wct_region_seq (by simp) ?_
  refine wot_o rfl (by exact opt_fieldAddr_fp (by rfl) (by rfl)) (by rfl) (by rfl) (by rfl) ?_
  refine wot_o rfl (by exact opt_fieldAddr_fp (by rfl) (by rfl)) (by rfl) (by rfl) (by rfl) ?_
  refine wot_o rfl (by exact opt_load_fp_1 (by rfl) (by rfl) (by rfl)) (by rfl) (by rfl) (by rfl) ?_
  refine wot_o rfl (opt_cmp (by rfl) (by rfl) (by rfl) (by rfl) (by rfl)) (by rfl) (by rfl) (by rfl) ?_
  refine wot_nil ?_
  refine wct_if_seq (by rfl) (by rfl) (fun c1 => ?_) (fun c1 => ?_)
  · (refine wct_assoc ?_)
    try simp only [Int.toNat_natCast] at c1
    refine wct_region_seq (by simp) ?_
    refine wot_o rfl (by exact opt_fieldAddr_fp (by rfl) (by rfl)) (by rfl) (by rfl) (by rfl) ?_
    refine wot_o rfl (by exact opt_fieldAddr_fp (by rfl) (by rfl)) (by rfl) (by rfl) (by rfl) ?_
    refine wot_o rfl (by exact opt_load_fp_1 (by rfl) (by rfl) (by rfl)) (by rfl) (by rfl) (by rfl) ?_
    refine wot_o rfl (opt_assign (by rfl) (by rfl)) (by rfl) (by rfl) (by rfl) ?_
    refine wot_nil ?_
    (refine wct_ret_seq ?_)
    refine fin_1c (by simp) rfl (by rfl) (by exact Cl.v _) ?_
    simp [dfnT, opdReg, c1]
  · (refine wct_skip_seq ?_)
    try simp only [Int.toNat_natCast] at c1
    refine wct_region_seq (by simp) ?_
    refine wot_o rfl (opt_assign_c (by rfl)) (by rfl) (by rfl) (by rfl) ?_
    refine wot_nil ?_
    (refine wct_ret ?_)
    refine fin_1c (by simp) rfl (by rfl) (by exact Cl.v _) ?_
    simp [dfnT, opdReg, c1]
theorem pu64 {t : Term} : Pu Tryd.prog 64 [Enc.tv t] (Eq (lst false (succT t))) := by
  refine pu_fn fn64 (by rfl) (by rfl) (by rfl) fun X hX hTb => ?_
  refine wct_region_seq (by simp) ?_
  refine wot_o rfl (opt_box_fz (by rfl) (by rfl) (by trivial)) (by rfl) (by rfl) (by rfl) ?_
  refine wot_o rfl (opt_assign_c (by rfl)) (by rfl) (by rfl) (by rfl) ?_
  refine wot_nil ?_
  (refine wct_assoc ?_)
  refine wct_region_seq (by simp) ?_
  refine wot_o rfl (by exact opt_fieldAddr_fp (by rfl) (by rfl)) (by rfl) (by rfl) (by rfl) ?_
  refine wot_o rfl (by exact opt_load_fp_1 (by rfl) (by rfl) (by rfl)) (by rfl) (by rfl) (by rfl) ?_
  refine wot_o rfl (opt_cmp (by rfl) (by rfl) (by rfl) (by rfl) (by rfl)) (by rfl) (by rfl) (by rfl) ?_
  refine wot_nil ?_
  refine wct_if_seq (by rfl) (by rfl) (fun c1 => ?_) (fun c1 => ?_)
  · (refine wct_assoc ?_)
    try simp only [Int.toNat_natCast] at c1
    refine wct_region_seq (by simp) ?_
    refine wot_o rfl (opt_lit_l (([] : List Int)) (by rfl) (by rfl) (by rfl) (by rfl) (by rfl) (by rfl) (by rfl) (by rfl) (by rfl) (by rfl)) (by rfl) (by rfl) (by rfl) ?_
    refine wot_o rfl (opt_assign (by rfl) (by rfl)) (by rfl) (by rfl) (by rfl) ?_
    refine wot_nil ?_
    (refine wct_ret_seq ?_)
    refine fin_1c (by simp) rfl (by rfl) (by exact lst_cl _) ?_
    simp [succT, c1]
  · (refine wct_skip_seq ?_; refine wct_assoc ?_)
    try simp only [Int.toNat_natCast] at c1
    refine wct_region_seq (by simp) ?_
    refine wot_o rfl (by exact opt_fieldAddr_fp (by rfl) (by rfl)) (by rfl) (by rfl) (by rfl) ?_
    refine wot_o rfl (by exact opt_load_fp_1 (by rfl) (by rfl) (by rfl)) (by rfl) (by rfl) (by rfl) ?_
    refine wot_o rfl (opt_cmp (by rfl) (by rfl) (by rfl) (by rfl) (by rfl)) (by rfl) (by rfl) (by rfl) ?_
    refine wot_o rfl (opt_move (by rfl) (by rfl)) (by rfl) (by rfl) (by rfl) ?_
    refine wot_split (d := 10) (by rfl) (fun g4 => ?_) (fun g4 => ?_)
    · refine wot_og rfl (by exact opt_fieldAddr_fp (by rfl) (by rfl)) (by rfl) (by rfl) (by rfl) (by rfl) (by rfl) (by rfl) ?_
      refine wot_og rfl (by exact opt_index_fpa (by rfl) (by rfl) (by rfl) (by rfl) (by omega) (by omega)) (by rfl) (by rfl) (by rfl) (by rfl) (by rfl) (by rfl) ?_
      refine wot_og rfl (by exact opt_load_fp_1 (by rfl) (by rfl) (by rfl)) (by rfl) (by rfl) (by rfl) (by rfl) (by rfl) (by rfl) ?_
      refine wot_og rfl (by exact opt_fieldAddr_fp (by rfl) (by rfl)) (by rfl) (by rfl) (by rfl) (by rfl) (by rfl) (by rfl) ?_
      refine wot_og rfl (by exact opt_index_fpa (by rfl) (by rfl) (by rfl) (by rfl) (by omega) (by omega)) (by rfl) (by rfl) (by rfl) (by rfl) (by rfl) (by rfl) ?_
      refine wot_og rfl (by exact opt_load_fp_1 (by rfl) (by rfl) (by rfl)) (by rfl) (by rfl) (by rfl) (by rfl) (by rfl) (by rfl) ?_
      refine wot_og rfl (opt_cmp (by rfl) (by rfl) (by rfl) (by rfl) (by rfl)) (by rfl) (by rfl) (by rfl) (by rfl) (by rfl) (by rfl) ?_
      refine wot_o rfl (by exact opt_pick_t (by rfl) (by rfl) (by rfl) (by rfl) (by rfl) (by rfl) (by rfl)) (by rfl) (by rfl) (by rfl) ?_
      refine wot_nil ?_
      refine wct_if_seq (by rfl) (by rfl) (fun c2 => ?_) (fun c2 => ?_)
      · (refine wct_assoc ?_)
        try simp only [Int.toNat_natCast] at c2
        refine wct_region_seq (by simp) ?_
        refine wot_o rfl (by exact opt_fieldAddr_fp (by rfl) (by rfl)) (by rfl) (by rfl) (by rfl) ?_
        refine wot_o rfl (by exact opt_index_fpa (by rfl) (by rfl) (by rfl) (by rfl) (by omega) (by omega)) (by rfl) (by rfl) (by rfl) ?_
        refine wot_o rfl (by exact opt_load_fp_1 (by rfl) (by rfl) (by rfl)) (by rfl) (by rfl) (by rfl) ?_
        refine wot_o rfl (by exact opt_fieldAddr_fp (by rfl) (by rfl)) (by rfl) (by rfl) (by rfl) ?_
        refine wot_o rfl (by exact opt_index_fpa (by rfl) (by rfl) (by rfl) (by rfl) (by omega) (by omega)) (by rfl) (by rfl) (by rfl) ?_
        refine wot_o rfl (by exact opt_load_fp_1 (by rfl) (by rfl) (by rfl)) (by rfl) (by rfl) (by rfl) ?_
        refine wot_o rfl (opt_lit_l ([t.to0, t.to1]) (by rfl) (by rfl) (by rfl) (by rfl) (by rfl) (by rfl) (by rfl) (by rfl) (by rfl) (by rfl)) (by rfl) (by rfl) (by rfl) ?_
        refine wot_o rfl (opt_assign (by rfl) (by rfl)) (by rfl) (by rfl) (by rfl) ?_
        refine wot_nil ?_
        (refine wct_ret_seq ?_)
        refine fin_1c (by simp) rfl (by rfl) (by exact lst_cl _) ?_
        simp [succT, g4, c2]
      · (refine wct_skip_seq ?_)
        try simp only [Int.toNat_natCast] at c2
        refine wct_region_seq (by simp) ?_
        refine wot_o rfl (by exact opt_fieldAddr_fp (by rfl) (by rfl)) (by rfl) (by rfl) (by rfl) ?_
        refine wot_o rfl (by exact opt_index_fpa (by rfl) (by rfl) (by rfl) (by rfl) (by omega) (by omega)) (by rfl) (by rfl) (by rfl) ?_
        refine wot_o rfl (by exact opt_load_fp_1 (by rfl) (by rfl) (by rfl)) (by rfl) (by rfl) (by rfl) ?_
        refine wot_o rfl (opt_lit_l ([t.to0]) (by rfl) (by rfl) (by rfl) (by rfl) (by rfl) (by rfl) (by rfl) (by rfl) (by rfl) (by rfl)) (by rfl) (by rfl) (by rfl) ?_
        refine wot_o rfl (opt_assign (by rfl) (by rfl)) (by rfl) (by rfl) (by rfl) ?_
        refine wot_nil ?_
        (refine wct_ret ?_)
        refine fin_1c (by simp) rfl (by rfl) (by exact lst_cl _) ?_
        have : t.to0 = t.to1 := Decidable.not_not.1 c2
        simp [succT, g4, this]
    · refine wot_sg (by rfl) (by rfl) (by rfl) (by rfl) (by rfl) (by rfl) ?_
      refine wot_sg (by rfl) (by rfl) (by rfl) (by rfl) (by rfl) (by rfl) ?_
      refine wot_sg (by rfl) (by rfl) (by rfl) (by rfl) (by rfl) (by rfl) ?_
      refine wot_sg (by rfl) (by rfl) (by rfl) (by rfl) (by rfl) (by rfl) ?_
      refine wot_sg (by rfl) (by rfl) (by rfl) (by rfl) (by rfl) (by rfl) ?_
      refine wot_sg (by rfl) (by rfl) (by rfl) (by rfl) (by rfl) (by rfl) ?_
      refine wot_sg (by rfl) (by rfl) (by rfl) (by rfl) (by rfl) (by rfl) ?_
      refine wot_o rfl (by exact opt_pick_f (by rfl) (by rfl) (by rfl) (by rfl) (by rfl) (by rfl) (by rfl)) (by rfl) (by rfl) (by rfl) ?_
      refine wot_nil ?_
      refine wct_ff_seq (by rfl) (by rfl) ?_
      (refine wct_skip_seq ?_)
      refine wct_region_seq (by simp) ?_
      refine wot_o rfl (by exact opt_fieldAddr_fp (by rfl) (by rfl)) (by rfl) (by rfl) (by rfl) ?_
      refine wot_o rfl (by exact opt_index_fpa (by rfl) (by rfl) (by rfl) (by rfl) (by omega) (by omega)) (by rfl) (by rfl) (by rfl) ?_
      refine wot_o rfl (by exact opt_load_fp_1 (by rfl) (by rfl) (by rfl)) (by rfl) (by rfl) (by rfl) ?_
      refine wot_o rfl (opt_lit_l ([t.to0]) (by rfl) (by rfl) (by rfl) (by rfl) (by rfl) (by rfl) (by rfl) (by rfl) (by rfl) (by rfl)) (by rfl) (by rfl) (by rfl) ?_
      refine wot_o rfl (opt_assign (by rfl) (by rfl)) (by rfl) (by rfl) (by rfl) ?_
      refine wot_nil ?_
      (refine wct_ret ?_)
      refine fin_1c (by simp) rfl (by rfl) (by exact lst_cl _) ?_
      simp [succT, c1, g4]
theorem pu50 {xs : List Int} {n : Int} (hx : xs.length ≤ 2 ^ 32) : Pu Tryd.prog 50 [lst false xs, ti n] (Eq (lst false (addI xs n))) := by
  refine pu_fn fn50 (by rfl) (by rfl) (by rfl) fun X hX hTb => ?_
  refine wct_region_seq (by simp) ?_
  refine wot_o rfl (opt_assign_c (by rfl)) (by rfl) (by rfl) (by rfl) ?_
  refine wot_nil ?_
  (refine wct_assoc ?_)
  refine wct_region_seq (by simp) ?_
  refine wot_o rfl (opt_move (by rfl) (by rfl)) (by rfl) (by rfl) (by rfl) ?_
  refine wot_o rfl (opt_move (by rfl) (by rfl)) (by rfl) (by rfl) (by rfl) ?_
  refine wot_c hTb rfl (call_bin (by rfl) (by rfl)) (by refine Drs.cons (by exact Dr.cl (by exact lst_cl _)) ?_; refine Drs.cons (by exact Dr.cl (by exact Cl.v _)) ?_; exact Drs.nil) (pu27) (by exact Cl.v _) (by rfl) (by rfl) (by rfl) ?_
  refine wot_nil ?_
  refine wct_if_seq (by rfl) (by rfl) (fun c1 => ?_) (fun c1 => ?_)
  · (refine wct_assoc ?_)
    try simp only [Int.toNat_natCast] at c1
    refine wct_region_seq (by simp) ?_
    refine wot_o rfl (opt_move (by rfl) (by rfl)) (by rfl) (by rfl) (by rfl) ?_
    refine wot_o rfl (opt_assign (by rfl) (by rfl)) (by rfl) (by rfl) (by rfl) ?_
    refine wot_nil ?_
    (refine wct_ret_seq ?_)
    refine fin_1c (by simp) rfl (by rfl) (by exact lst_cl _) ?_
    rw [show addI xs n = xs by simp [addI, c1]]
  · (refine wct_skip_seq ?_)
    try simp only [Int.toNat_natCast] at c1
    refine wct_region_seq (by simp) ?_
    refine wot_o rfl (opt_assign_c (by rfl)) (by rfl) (by rfl) (by rfl) ?_
    refine wot_nil ?_
    refine wct_loop_seq (fun (k : Nat) => k ≤ xs.length ∧ ∀ x ∈ xs.take k, x < n) (fun (k : Nat) => [(0, lst false xs), (1, ti n), (5, ti (k : Int))]) (fun (k : Nat) => []) (fun (k : Nat) => xs.length - k) 0 (by exact ⟨rfl, rfl, rfl, trivial⟩) (by rfl) ?_ ?_
    · simp
    rintro k ⟨hk, hn⟩
    (refine wct_assoc ?_)
    refine wct_region_seq (by simp) ?_
    refine wot_o rfl (opt_move (by rfl) (by rfl)) (by rfl) (by rfl) (by rfl) ?_
    refine wot_o rfl (opt_move (by rfl) (by rfl)) (by rfl) (by rfl) (by rfl) ?_
    refine wot_o rfl (by exact opt_len_fz (by rfl) (by rfl) (by rfl)) (by rfl) (by rfl) (by rfl) ?_
    refine wot_o rfl (opt_cmp (by rfl) (by rfl) (by rfl) (by rfl) (by rfl)) (by rfl) (by rfl) (by rfl) ?_
    refine wot_o rfl (opt_move (by rfl) (by rfl)) (by rfl) (by rfl) (by rfl) ?_
    refine wot_split (d := 14) (by rfl) (fun g5 => ?_) (fun g5 => ?_)
    · refine wot_og rfl (opt_move (by rfl) (by rfl)) (by rfl) (by rfl) (by rfl) (by rfl) (by rfl) (by rfl) ?_
      refine wot_og rfl (opt_move (by rfl) (by rfl)) (by rfl) (by rfl) (by rfl) (by rfl) (by rfl) (by rfl) ?_
      refine wot_og rfl (by exact opt_index_lstN (by rfl) (by rfl) (by rfl) (by rfl) (by omega) (by rfl)) (by rfl) (by rfl) (by rfl) (by rfl) (by rfl) (by rfl) ?_
      refine wot_og rfl (by exact opt_load_fp_1 (by rfl) (by rfl) (by rfl)) (by rfl) (by rfl) (by rfl) (by rfl) (by rfl) (by rfl) ?_
      refine wot_og rfl (opt_move (by rfl) (by rfl)) (by rfl) (by rfl) (by rfl) (by rfl) (by rfl) (by rfl) ?_
      refine wot_og rfl (opt_cmp (by rfl) (by rfl) (by rfl) (by rfl) (by rfl)) (by rfl) (by rfl) (by rfl) (by rfl) (by rfl) (by rfl) ?_
      refine wot_o rfl (by exact opt_pick_t (by rfl) (by rfl) (by rfl) (by rfl) (by rfl) (by rfl) (by rfl)) (by rfl) (by rfl) (by rfl) ?_
      refine wot_nil ?_
      refine wct_if_seq (by rfl) (by rfl) (fun c2 => ?_) (fun c2 => ?_)
      · (refine wct_skip_seq ?_; refine wct_block1r ?_)
        try simp only [Int.toNat_natCast] at c2
        refine wct_region (by simp) ?_
        refine wot_o rfl (opt_move (by rfl) (by rfl)) (by rfl) (by rfl) (by rfl) ?_
        refine wot_o rfl (opt_add (by rfl) (by rfl) (by rfl) (by rfl) (by constructor <;> omega)) (by rfl) (by rfl) (by rfl) ?_
        refine wot_o rfl (opt_assign (by rfl) (by rfl)) (by rfl) (by rfl) (by rfl) ?_
        refine wot_nil ?_
        (refine qbt_normal ?_; refine qst_loop ?_)
        refine rnd (k + 1) (by (try simp only); omega) ?_ (by exact ⟨rfl, rfl, rfl, trivial⟩) (by rfl)
        try dsimp only
        refine ⟨by omega, fun x hx => ?_⟩
        rcases (take_succ_mem (by omega)).1 hx with h | h
        · exact hn x h
        · rw [← h]; exact c2
      · (refine wct_exit_seq ?_; refine qst_exit ?_; refine qbt_same ?_; refine qst_wct ?_)
        try simp only [Int.toNat_natCast] at c2
        refine wct_draw_seq (by kernel_rfl) (u := []) (by kernel_rfl) ?_
        refine wtt_o rfl (opt_litO_l (([] : List Int)) (by rfl) (by rfl) (by rfl) (by rfl) (by rfl) (by rfl) (by rfl) (by rfl) (by rfl) (by rfl)) (by rfl) (by rfl) (by rfl) ?_
        refine wtt_o rfl (opt_move (by rfl) (by rfl)) (by rfl) (by rfl) (by rfl) ?_
        refine wtt_o rfl (opt_move (by rfl) (by rfl)) (by rfl) (by rfl) (by rfl) ?_
        refine wtt_o rfl (by exact opt_slice_hi (by rfl) (by rfl) (by rfl) (by rfl) (by omega) (by rfl)) (by rfl) (by rfl) (by rfl) ?_
        refine wtt_of rfl (by exact opt_append_l (by rfl) (by rfl) (by rfl) (by rfl) src_lst (by rfl) (by rfl) (by rfl) (by (simp only [List.length_append, List.length_cons, List.length_nil, List.length_take, List.length_drop]; omega)) (by rfl)) (EffOk.pure hX) (by rfl) (by rfl) (by rfl) ?_
        refine wtt_o rfl (opt_move (by rfl) (by rfl)) (by rfl) (by rfl) (by rfl) ?_
        refine wtt_o rfl (opt_lit_l ([n]) (by rfl) (by rfl) (by rfl) (by rfl) (by rfl) (by rfl) (by rfl) (by rfl) (by rfl) (by rfl)) (by rfl) (by rfl) (by rfl) ?_
        refine wtt_of rfl (by exact opt_append_l (by rfl) (by rfl) (by rfl) (by rfl) src_lst (by rfl) (by rfl) (by rfl) (by (simp only [List.length_append, List.length_cons, List.length_nil, List.length_take, List.length_drop]; omega)) (by rfl)) (EffOk.pure hX) (by rfl) (by rfl) (by rfl) ?_
        refine wtt_o rfl (opt_move (by rfl) (by rfl)) (by rfl) (by rfl) (by rfl) ?_
        refine wtt_o rfl (opt_move (by rfl) (by rfl)) (by rfl) (by rfl) (by rfl) ?_
        refine wtt_o rfl (by exact opt_slice_lo (by rfl) (by rfl) (by rfl) (by rfl) (by omega) (by rfl)) (by rfl) (by rfl) (by rfl) ?_
        refine wtt_of rfl (by exact opt_append_l (by rfl) (by rfl) (by rfl) (by rfl) src_lst (by rfl) (by rfl) (by rfl) (by (simp only [List.length_append, List.length_cons, List.length_nil, List.length_take, List.length_drop]; omega)) (by rfl)) (EffOk.pure hX) (by rfl) (by rfl) (by rfl) ?_
        refine wtt_o rfl (opt_assign (by rfl) (by rfl)) (by rfl) (by rfl) (by rfl) ?_
        refine wtt_nil ?_
        refine ⟨trivial, ?_⟩
        (refine wct_ret ?_)
        refine fin_1 (by simp) rfl (by rfl) (by exact dr_ow (by rfl) (by rfl) (by rfl) (by (simp only [List.length_append, List.length_cons, List.length_nil, List.length_take, List.length_drop, List.length_set, List.length_replicate]; omega)) (by exact Nat.le_refl _)) ?_
        obtain ⟨e1, e2⟩ := while_take (p := fun x => decide (x < n)) (xs := xs) (k := k) (by simpa using hn) (.inr ⟨by omega, by simpa using c2⟩)
        simp [addI, c1, e1, e2]
    · refine wot_sg (by rfl) (by rfl) (by rfl) (by rfl) (by rfl) (by rfl) ?_
      refine wot_sg (by rfl) (by rfl) (by rfl) (by rfl) (by rfl) (by rfl) ?_
      refine wot_sg (by rfl) (by rfl) (by rfl) (by rfl) (by rfl) (by rfl) ?_
      refine wot_sg (by rfl) (by rfl) (by rfl) (by rfl) (by rfl) (by rfl) ?_
      refine wot_sg (by rfl) (by rfl) (by rfl) (by rfl) (by rfl) (by rfl) ?_
      refine wot_sg (by rfl) (by rfl) (by rfl) (by rfl) (by rfl) (by rfl) ?_
      refine wot_o rfl (by exact opt_pick_f (by rfl) (by rfl) (by rfl) (by rfl) (by rfl) (by rfl) (by rfl)) (by rfl) (by rfl) (by rfl) ?_
      refine wot_nil ?_
      refine wct_ff_seq (by rfl) (by rfl) ?_
      (refine wct_exit_seq ?_; refine qst_exit ?_; refine qbt_same ?_; refine qst_wct ?_)
      refine wct_draw_seq (by kernel_rfl) (u := []) (by kernel_rfl) ?_
      refine wtt_o rfl (opt_litO_l (([] : List Int)) (by rfl) (by rfl) (by rfl) (by rfl) (by rfl) (by rfl) (by rfl) (by rfl) (by rfl) (by rfl)) (by rfl) (by rfl) (by rfl) ?_
      refine wtt_o rfl (opt_move (by rfl) (by rfl)) (by rfl) (by rfl) (by rfl) ?_
      refine wtt_o rfl (opt_move (by rfl) (by rfl)) (by rfl) (by rfl) (by rfl) ?_
      refine wtt_o rfl (by exact opt_slice_hi (by rfl) (by rfl) (by rfl) (by rfl) (by omega) (by rfl)) (by rfl) (by rfl) (by rfl) ?_
      refine wtt_of rfl (by exact opt_append_l (by rfl) (by rfl) (by rfl) (by rfl) src_lst (by rfl) (by rfl) (by rfl) (by (simp only [List.length_append, List.length_cons, List.length_nil, List.length_take, List.length_drop]; omega)) (by rfl)) (EffOk.pure hX) (by rfl) (by rfl) (by rfl) ?_
      refine wtt_o rfl (opt_move (by rfl) (by rfl)) (by rfl) (by rfl) (by rfl) ?_
      refine wtt_o rfl (opt_lit_l ([n]) (by rfl) (by rfl) (by rfl) (by rfl) (by rfl) (by rfl) (by rfl) (by rfl) (by rfl) (by rfl)) (by rfl) (by rfl) (by rfl) ?_
      refine wtt_of rfl (by exact opt_append_l (by rfl) (by rfl) (by rfl) (by rfl) src_lst (by rfl) (by rfl) (by rfl) (by (simp only [List.length_append, List.length_cons, List.length_nil, List.length_take, List.length_drop]; omega)) (by rfl)) (EffOk.pure hX) (by rfl) (by rfl) (by rfl) ?_
      refine wtt_o rfl (opt_move (by rfl) (by rfl)) (by rfl) (by rfl) (by rfl) ?_
      refine wtt_o rfl (opt_move (by rfl) (by rfl)) (by rfl) (by rfl) (by rfl) ?_
      refine wtt_o rfl (by exact opt_slice_lo (by rfl) (by rfl) (by rfl) (by rfl) (by omega) (by rfl)) (by rfl) (by rfl) (by rfl) ?_
      refine wtt_of rfl (by exact opt_append_l (by rfl) (by rfl) (by rfl) (by rfl) src_lst (by rfl) (by rfl) (by rfl) (by (simp only [List.length_append, List.length_cons, List.length_nil, List.length_take, List.length_drop]; omega)) (by rfl)) (EffOk.pure hX) (by rfl) (by rfl) (by rfl) ?_
      refine wtt_o rfl (opt_assign (by rfl) (by rfl)) (by rfl) (by rfl) (by rfl) ?_
      refine wtt_nil ?_
      refine ⟨trivial, ?_⟩
      (refine wct_ret ?_)
      refine fin_1 (by simp) rfl (by rfl) (by exact dr_ow (by rfl) (by rfl) (by rfl) (by (simp only [List.length_append, List.length_cons, List.length_nil, List.length_take, List.length_drop, List.length_set, List.length_replicate]; omega)) (by exact Nat.le_refl _)) ?_
      obtain ⟨e1, e2⟩ := while_take (p := fun x => decide (x < n)) (xs := xs) (k := k) (by simpa using hn) (.inl (by omega))
      simp [addI, c1, e1, e2]
theorem woI_take1 {xs : List Int} {k : Nat} {n : Int} (h : k < xs.length) (c : at' xs k ≠ n) : woI (xs.take (k + 1)) n = woI (xs.take k) n ++ [at' xs k] := by rw [woI, take_succ h, List.filter_append]; simp [woI, c]
theorem woI_take2 {xs : List Int} {k : Nat} {n : Int} (h : k < xs.length) (c : ¬ at' xs k ≠ n) : woI (xs.take (k + 1)) n = woI (xs.take k) n := by rw [woI, take_succ h, List.filter_append]; simp [woI, Decidable.not_not.1 c]
theorem pu81 {t : Bool} {xs : List Int} {n : Int} (hx : xs.length ≤ 2 ^ 32) : Pu Tryd.prog 81 [lst t xs, ti n] (Eq (lst false (woI xs n))) := by
  refine pu_fn fn81 (by rfl) (by rfl) (by rfl) fun X hX hTb => ?_
  refine wct_region_seq (by simp) ?_
  refine wot_o rfl (opt_assign_c (by rfl)) (by rfl) (by rfl) (by rfl) ?_
  refine wot_nil ?_
  refine wct_region_seq (by simp) ?_
  refine wot_o rfl (opt_litO_l (([] : List Int)) (by rfl) (by rfl) (by rfl) (by rfl) (by rfl) (by rfl) (by rfl) (by rfl) (by rfl) (by rfl)) (by rfl) (by rfl) (by rfl) ?_
  refine wot_o rfl (opt_assign (by rfl) (by rfl)) (by rfl) (by rfl) (by rfl) ?_
  refine wot_nil ?_
  (refine wct_assoc ?_)
  refine wct_region_seq (by simp) ?_
  refine wot_o rfl (opt_assign_c (by rfl)) (by rfl) (by rfl) (by rfl) ?_
  refine wot_nil ?_
  refine wct_loop3 (fun (k : Nat) (g : Nat) (ys : List Int) => k ≤ xs.length ∧ ys = woI (xs.take k) n ∧ ys.length ≤ k) (fun (k : Nat) (g : Nat) (ys : List Int) => [(0, lst t xs), (1, ti n), (5, ownl 0 g ys), (6, ti (k : Int))]) (fun (k : Nat) (g : Nat) (ys : List Int) => [rl g 3 ys]) (fun (k : Nat) (g : Nat) (ys : List Int) => xs.length - k) 0 0 [] (by exact ⟨rfl, rfl, rfl, rfl, trivial⟩) (by rfl) ?_ ?_
  · simp [woI]
  rintro k g ys ⟨hk, hy, hl⟩
  (refine wct_assoc ?_)
  refine wct_region_seq (by simp) ?_
  refine wot_o rfl (opt_move (by rfl) (by rfl)) (by rfl) (by rfl) (by rfl) ?_
  refine wot_o rfl (opt_move (by rfl) (by rfl)) (by rfl) (by rfl) (by rfl) ?_
  refine wot_o rfl (by exact opt_len_fz (by rfl) (by rfl) (by rfl)) (by rfl) (by rfl) (by rfl) ?_
  refine wot_o rfl (opt_cmp (by rfl) (by rfl) (by rfl) (by rfl) (by rfl)) (by rfl) (by rfl) (by rfl) ?_
  refine wot_nil ?_
  refine wct_if_seq (by rfl) (by rfl) (fun c1 => ?_) (fun c1 => ?_)
  · (refine wct_skip_seq ?_; refine wct_block_sq ?_)
    try simp only [Int.toNat_natCast] at c1
    refine wct_region_seq (by simp) ?_
    refine wot_o rfl (opt_move (by rfl) (by rfl)) (by rfl) (by rfl) (by rfl) ?_
    refine wot_o rfl (opt_move (by rfl) (by rfl)) (by rfl) (by rfl) (by rfl) ?_
    refine wot_o rfl (by exact opt_index_lstN (by rfl) (by rfl) (by rfl) (by rfl) (by omega) (by rfl)) (by rfl) (by rfl) (by rfl) ?_
    refine wot_o rfl (by exact opt_load_fp_1 (by rfl) (by rfl) (by rfl)) (by rfl) (by rfl) (by rfl) ?_
    refine wot_o rfl (opt_move (by rfl) (by rfl)) (by rfl) (by rfl) (by rfl) ?_
    refine wot_o rfl (opt_cmp (by rfl) (by rfl) (by rfl) (by rfl) (by rfl)) (by rfl) (by rfl) (by rfl) ?_
    refine wot_nil ?_
    refine wct_if (by rfl) (by rfl) (fun c2 => ?_) (fun c2 => ?_)
    · (skip)
      try simp only [Int.toNat_natCast] at c2
      refine wct_region (by simp) ?_
      refine wot_o rfl (opt_move (by rfl) (by rfl)) (by rfl) (by rfl) (by rfl) ?_
      refine wot_o rfl (opt_move (by rfl) (by rfl)) (by rfl) (by rfl) (by rfl) ?_
      refine wot_o rfl (opt_move (by rfl) (by rfl)) (by rfl) (by rfl) (by rfl) ?_
      refine wot_o rfl (by exact opt_index_lstN (by rfl) (by rfl) (by rfl) (by rfl) (by omega) (by rfl)) (by rfl) (by rfl) (by rfl) ?_
      refine wot_o rfl (by exact opt_load_fp_1 (by rfl) (by rfl) (by rfl)) (by rfl) (by rfl) (by rfl) ?_
      refine wot_o rfl (opt_lit_l ([at' xs k]) (by rfl) (by rfl) (by rfl) (by rfl) (by rfl) (by rfl) (by rfl) (by rfl) (by rfl) (by rfl)) (by rfl) (by rfl) (by rfl) ?_
      refine wot_of rfl (by exact opt_append_l (by rfl) (by rfl) (by rfl) (by rfl) src_lst (by rfl) (by rfl) (by rfl) (by (simp only [List.length_append, List.length_cons, List.length_nil, List.length_take, List.length_drop]; omega)) (by rfl)) (EffOk.pure hX) (by rfl) (by rfl) (by rfl) ?_
      refine wot_o rfl (opt_assign (by rfl) (by rfl)) (by rfl) (by rfl) (by rfl) ?_
      refine wot_nil ?_
      (refine qbt_normal ?_; refine qst_wct ?_)
      refine wct_region (by simp) ?_
      refine wot_o rfl (opt_move (by rfl) (by rfl)) (by rfl) (by rfl) (by rfl) ?_
      refine wot_o rfl (opt_add (by rfl) (by rfl) (by rfl) (by rfl) (by constructor <;> omega)) (by rfl) (by rfl) (by rfl) ?_
      refine wot_o rfl (opt_assign (by rfl) (by rfl)) (by rfl) (by rfl) (by rfl) ?_
      refine wot_nil ?_
      (refine qst_loop ?_)
      refine rnd (k + 1, g + 1, ys ++ [at' xs k]) (by (try simp only); omega) ?_ (by exact ⟨rfl, rfl, rfl, rfl, trivial⟩) (by rfl)
      try dsimp only
      refine ⟨by omega, ?_, by simp; omega⟩
      rw [woI_take1 (by omega) c2, hy]
    · (refine wct_skip ?_; refine qbt_normal ?_; refine qst_wct ?_)
      try simp only [Int.toNat_natCast] at c2
      refine wct_region (by simp) ?_
      refine wot_o rfl (opt_move (by rfl) (by rfl)) (by rfl) (by rfl) (by rfl) ?_
      refine wot_o rfl (opt_add (by rfl) (by rfl) (by rfl) (by rfl) (by constructor <;> omega)) (by rfl) (by rfl) (by rfl) ?_
      refine wot_o rfl (opt_assign (by rfl) (by rfl)) (by rfl) (by rfl) (by rfl) ?_
      refine wot_nil ?_
      (refine qst_loop ?_)
      refine rnd (k + 1, g, ys) (by (try simp only); omega) ?_ (by exact ⟨rfl, rfl, rfl, rfl, trivial⟩) (by rfl)
      try dsimp only
      refine ⟨by omega, ?_, by omega⟩
      rw [woI_take2 (by omega) c2, hy]
  · (refine wct_exit_seq ?_; refine qst_exit ?_; refine qbt_same ?_; refine qst_wct ?_)
    try simp only [Int.toNat_natCast] at c1
    refine wct_region_seq (by simp) ?_
    refine wot_o rfl (opt_move (by rfl) (by rfl)) (by rfl) (by rfl) (by rfl) ?_
    refine wot_o rfl (opt_assign (by rfl) (by rfl)) (by rfl) (by rfl) (by rfl) ?_
    refine wot_nil ?_
    (refine wct_ret ?_)
    refine fin_1 (by simp) rfl (by rfl) (by exact dr_ow (by rfl) (by rfl) (by rfl) (by omega) (by exact Nat.le_refl _)) ?_
    rw [hy, take_all hk c1]
theorem unionI_take {xs ys : List Int} {k : Nat} (h : k < ys.length) : unionI xs (ys.take (k + 1)) = addI (unionI xs (ys.take k)) (at' ys k) := by rw [take_succ h, unionI, List.foldl_append]; rfl
theorem addI_mem {xs : List Int} {n : Int} (h : n ∈ xs) : addI xs n = xs := by simp [addI, h]
theorem pu51 {t u : Bool} {xs ys : List Int} (hx : xs.length ≤ 2 ^ 31) (hy : ys.length ≤ 2 ^ 31) : Pu Tryd.prog 51 [lst t xs, lst u ys] (Eq (lst false (unionI xs ys))) := by
  refine pu_fn fn51 (by rfl) (by rfl) (by rfl) fun X hX hTb => ?_
  refine wct_region_seq (by simp) ?_
  refine wot_o rfl (opt_assign_c (by rfl)) (by rfl) (by rfl) (by rfl) ?_
  refine wot_nil ?_
  refine wct_region_seq (by simp) ?_
  refine wot_o rfl (opt_litO_l (([] : List Int)) (by rfl) (by rfl) (by rfl) (by rfl) (by rfl) (by rfl) (by rfl) (by rfl) (by rfl) (by rfl)) (by rfl) (by rfl) (by rfl) ?_
  refine wot_o rfl (opt_move (by rfl) (by rfl)) (by rfl) (by rfl) (by rfl) ?_
  refine wot_of rfl (by exact opt_append_l (by rfl) (by rfl) (by rfl) (by rfl) src_lst (by rfl) (by rfl) (by rfl) (by (simp only [List.length_append, List.length_cons, List.length_nil, List.length_take, List.length_drop]; omega)) (by rfl)) (EffOk.pure hX) (by rfl) (by rfl) (by rfl) ?_
  refine wot_o rfl (opt_assign (by rfl) (by rfl)) (by rfl) (by rfl) (by rfl) ?_
  refine wot_nil ?_
  (refine wct_assoc ?_)
  refine wct_ghost (g_freeze (d := 5) rfl (by rw [hX]; rfl) rfl (fz_own (xs := xs) rfl rfl (by omega) (by simp))) ?_
  refine wct_region_seq (by simp) ?_
  refine wot_o rfl (opt_assign_c (by rfl)) (by rfl) (by rfl) (by rfl) ?_
  refine wot_nil ?_
  refine wct_loop2 (fun (k : Nat) (zs : List Int) => k ≤ ys.length ∧ zs = unionI xs (ys.take k) ∧ zs.length ≤ xs.length + k) (fun (k : Nat) (zs : List Int) => [(0, lst t xs), (1, lst u ys), (5, lst false zs), (6, ti (k : Int))]) (fun (k : Nat) (zs : List Int) => [⟨1, none⟩]) (fun (k : Nat) (zs : List Int) => ys.length - k) 0 xs (by exact ⟨rfl, rfl, rfl, rfl, trivial⟩) (by rfl) ?_ ?_
  · exact ⟨by omega, rfl, by simp⟩
  rintro k zs ⟨hk, hz, hl⟩
  (refine wct_assoc ?_)
  refine wct_region_seq (by simp) ?_
  refine wot_o rfl (opt_move (by rfl) (by rfl)) (by rfl) (by rfl) (by rfl) ?_
  refine wot_o rfl (opt_move (by rfl) (by rfl)) (by rfl) (by rfl) (by rfl) ?_
  refine wot_o rfl (by exact opt_len_fz (by rfl) (by rfl) (by rfl)) (by rfl) (by rfl) (by rfl) ?_
  refine wot_o rfl (opt_cmp (by rfl) (by rfl) (by rfl) (by rfl) (by rfl)) (by rfl) (by rfl) (by rfl) ?_
  refine wot_nil ?_
  refine wct_if_seq (by rfl) (by rfl) (fun c1 => ?_) (fun c1 => ?_)
  · (refine wct_skip_seq ?_; refine wct_block_sq ?_)
    try simp only [Int.toNat_natCast] at c1
    refine wct_region_seq (by simp) ?_
    refine wot_o rfl (opt_move (by rfl) (by rfl)) (by rfl) (by rfl) (by rfl) ?_
    refine wot_o rfl (opt_move (by rfl) (by rfl)) (by rfl) (by rfl) (by rfl) ?_
    refine wot_o rfl (opt_move (by rfl) (by rfl)) (by rfl) (by rfl) (by rfl) ?_
    refine wot_o rfl (by exact opt_index_lstN (by rfl) (by rfl) (by rfl) (by rfl) (by omega) (by rfl)) (by rfl) (by rfl) (by rfl) ?_
    refine wot_o rfl (by exact opt_load_fp_1 (by rfl) (by rfl) (by rfl)) (by rfl) (by rfl) (by rfl) ?_
    refine wot_c hTb rfl (call_bin (by rfl) (by rfl)) (by refine Drs.cons (by exact Dr.cl (by exact lst_cl _)) ?_; refine Drs.cons (by exact Dr.cl (by exact Cl.v _)) ?_; exact Drs.nil) (pu27) (by exact Cl.v _) (by rfl) (by rfl) (by rfl) ?_
    refine wot_o rfl (opt_not (by rfl) (by rfl)) (by rfl) (by rfl) (by rfl) ?_
    refine wot_nil ?_
    refine wct_ifb (by rfl) (by rfl) (fun c2 => ?_) (fun c2 => ?_)
    · (skip)
      try simp only [Int.toNat_natCast] at c2
      refine wct_region (by simp) ?_
      refine wot_o rfl (opt_move (by rfl) (by rfl)) (by rfl) (by rfl) (by rfl) ?_
      refine wot_o rfl (opt_move (by rfl) (by rfl)) (by rfl) (by rfl) (by rfl) ?_
      refine wot_o rfl (opt_move (by rfl) (by rfl)) (by rfl) (by rfl) (by rfl) ?_
      refine wot_o rfl (by exact opt_index_lstN (by rfl) (by rfl) (by rfl) (by rfl) (by omega) (by rfl)) (by rfl) (by rfl) (by rfl) ?_
      refine wot_o rfl (by exact opt_load_fp_1 (by rfl) (by rfl) (by rfl)) (by rfl) (by rfl) (by rfl) ?_
      refine wot_c hTb rfl (call_bin (by rfl) (by rfl)) (by refine Drs.cons (by exact Dr.cl (by exact lst_cl _)) ?_; refine Drs.cons (by exact Dr.cl (by exact Cl.v _)) ?_; exact Drs.nil) (pu50 (by omega)) (by exact lst_cl _) (by rfl) (by rfl) (by rfl) ?_
      refine wot_o rfl (opt_assign (by rfl) (by rfl)) (by rfl) (by rfl) (by rfl) ?_
      refine wot_nil ?_
      (refine qbt_normal ?_; refine qst_wct ?_)
      refine wct_region (by simp) ?_
      refine wot_o rfl (opt_move (by rfl) (by rfl)) (by rfl) (by rfl) (by rfl) ?_
      refine wot_o rfl (opt_add (by rfl) (by rfl) (by rfl) (by rfl) (by constructor <;> omega)) (by rfl) (by rfl) (by rfl) ?_
      refine wot_o rfl (opt_assign (by rfl) (by rfl)) (by rfl) (by rfl) (by rfl) ?_
      refine wot_nil ?_
      (refine qst_loop ?_)
      refine rnd (k + 1, addI zs (at' ys k)) (by (try simp only); omega) ?_ (by exact ⟨rfl, rfl, rfl, rfl, trivial⟩) (by rfl)
      try dsimp only
      refine ⟨by omega, by rw [hz, unionI_take (by omega)], ?_⟩
      have := addI_len zs (at' ys k)
      omega
    · (refine wct_skip ?_; refine qbt_normal ?_; refine qst_wct ?_)
      try simp only [Int.toNat_natCast] at c2
      refine wct_region (by simp) ?_
      refine wot_o rfl (opt_move (by rfl) (by rfl)) (by rfl) (by rfl) (by rfl) ?_
      refine wot_o rfl (opt_add (by rfl) (by rfl) (by rfl) (by rfl) (by constructor <;> omega)) (by rfl) (by rfl) (by rfl) ?_
      refine wot_o rfl (opt_assign (by rfl) (by rfl)) (by rfl) (by rfl) (by rfl) ?_
      refine wot_nil ?_
      (refine qst_loop ?_)
      refine rnd (k + 1, zs) (by (try simp only); omega) ?_ (by exact ⟨rfl, rfl, rfl, rfl, trivial⟩) (by rfl)
      try dsimp only
      refine ⟨by omega, ?_, by omega⟩
      have c : at' ys k ∈ zs := by simpa using c2
      rw [unionI_take (by omega), ← hz, addI_mem c]
  · (refine wct_exit_seq ?_; refine qst_exit ?_; refine qbt_same ?_; refine qst_wct ?_)
    try simp only [Int.toNat_natCast] at c1
    refine wct_region_seq (by simp) ?_
    refine wot_o rfl (opt_move (by rfl) (by rfl)) (by rfl) (by rfl) (by rfl) ?_
    refine wot_o rfl (opt_assign (by rfl) (by rfl)) (by rfl) (by rfl) (by rfl) ?_
    refine wot_nil ?_
    (refine wct_ret ?_)
    refine fin_1c (by simp) rfl (by rfl) (by exact lst_cl _) ?_
    rw [hz, take_all hk c1]
theorem regs_take {l : List Opd} {k : Nat} (h : k < l.length) : regsOf (l.take (k + 1)) = if (at' l k).kind = 2 then addI (regsOf (l.take k)) (at' l k).n else regsOf (l.take k) := by rw [take_succ h, regsOf, List.foldl_append]; rfl
theorem pu65 {t : Bool} {l : List Opd} (hx : l.length ≤ 2 ^ 31) : Pu Tryd.prog 65 [lst t l] (Eq (lst false (regsOf l))) := by
  refine pu_fn fn65 (by rfl) (by rfl) (by rfl) fun X hX hTb => ?_
  refine wct_region_seq (by simp) ?_
  refine wot_o rfl (opt_assign_c (by rfl)) (by rfl) (by rfl) (by rfl) ?_
  refine wot_nil ?_
  refine wct_region_seq (by simp) ?_
  refine wot_o rfl (opt_lit_l (([] : List Int)) (by rfl) (by rfl) (by rfl) (by rfl) (by rfl) (by rfl) (by rfl) (by rfl) (by rfl) (by rfl)) (by rfl) (by rfl) (by rfl) ?_
  refine wot_o rfl (opt_assign (by rfl) (by rfl)) (by rfl) (by rfl) (by rfl) ?_
  refine wot_nil ?_
  (refine wct_assoc ?_)
  refine wct_region_seq (by simp) ?_
  refine wot_o rfl (opt_assign_c (by rfl)) (by rfl) (by rfl) (by rfl) ?_
  refine wot_nil ?_
  refine wct_loop2 (fun (k : Nat) (zs : List Int) => k ≤ l.length ∧ zs = regsOf (l.take k) ∧ zs.length ≤ k) (fun (k : Nat) (zs : List Int) => [(0, lst t l), (3, lst false zs), (4, ti (k : Int))]) (fun (k : Nat) (zs : List Int) => []) (fun (k : Nat) (zs : List Int) => l.length - k) 0 [] (by exact ⟨rfl, rfl, rfl, trivial⟩) (by rfl) ?_ ?_
  · exact ⟨by omega, rfl, by simp⟩
  rintro k zs ⟨hk, hz, hl⟩
  (refine wct_assoc ?_)
  refine wct_region_seq (by simp) ?_
  refine wot_o rfl (opt_move (by rfl) (by rfl)) (by rfl) (by rfl) (by rfl) ?_
  refine wot_o rfl (opt_move (by rfl) (by rfl)) (by rfl) (by rfl) (by rfl) ?_
  refine wot_o rfl (by exact opt_len_fz (by rfl) (by rfl) (by rfl)) (by rfl) (by rfl) (by rfl) ?_
  refine wot_o rfl (opt_cmp (by rfl) (by rfl) (by rfl) (by rfl) (by rfl)) (by rfl) (by rfl) (by rfl) ?_
  refine wot_nil ?_
  refine wct_if_seq (by rfl) (by rfl) (fun c1 => ?_) (fun c1 => ?_)
  · (refine wct_skip_seq ?_; refine wct_block_sq ?_)
    try simp only [Int.toNat_natCast] at c1
    refine wct_region_seq (by simp) ?_
    refine wot_o rfl (opt_move (by rfl) (by rfl)) (by rfl) (by rfl) (by rfl) ?_
    refine wot_o rfl (opt_move (by rfl) (by rfl)) (by rfl) (by rfl) (by rfl) ?_
    refine wot_o rfl (by exact opt_index_lstN (by rfl) (by rfl) (by rfl) (by rfl) (by omega) (by rfl)) (by rfl) (by rfl) (by rfl) ?_
    refine wot_o rfl (by exact opt_fieldAddr_fp (by rfl) (by rfl)) (by rfl) (by rfl) (by rfl) ?_
    refine wot_o rfl (by exact opt_load_fp_1 (by rfl) (by rfl) (by rfl)) (by rfl) (by rfl) (by rfl) ?_
    refine wot_o rfl (opt_cmp (by rfl) (by rfl) (by rfl) (by rfl) (by rfl)) (by rfl) (by rfl) (by rfl) ?_
    refine wot_nil ?_
    refine wct_if (by rfl) (by rfl) (fun c2 => ?_) (fun c2 => ?_)
    · (skip)
      try simp only [Int.toNat_natCast] at c2
      refine wct_region (by simp) ?_
      refine wot_o rfl (opt_move (by rfl) (by rfl)) (by rfl) (by rfl) (by rfl) ?_
      refine wot_o rfl (opt_move (by rfl) (by rfl)) (by rfl) (by rfl) (by rfl) ?_
      refine wot_o rfl (opt_move (by rfl) (by rfl)) (by rfl) (by rfl) (by rfl) ?_
      refine wot_o rfl (by exact opt_index_lstN (by rfl) (by rfl) (by rfl) (by rfl) (by omega) (by rfl)) (by rfl) (by rfl) (by rfl) ?_
      refine wot_o rfl (by exact opt_fieldAddr_fp (by rfl) (by rfl)) (by rfl) (by rfl) (by rfl) ?_
      refine wot_o rfl (by exact opt_load_fp_1 (by rfl) (by rfl) (by rfl)) (by rfl) (by rfl) (by rfl) ?_
      refine wot_c hTb rfl (call_bin (by rfl) (by rfl)) (by refine Drs.cons (by exact Dr.cl (by exact lst_cl _)) ?_; refine Drs.cons (by exact Dr.cl (by exact Cl.v _)) ?_; exact Drs.nil) (pu50 (by omega)) (by exact lst_cl _) (by rfl) (by rfl) (by rfl) ?_
      refine wot_o rfl (opt_assign (by rfl) (by rfl)) (by rfl) (by rfl) (by rfl) ?_
      refine wot_nil ?_
      (refine qbt_normal ?_; refine qst_wct ?_)
      refine wct_region (by simp) ?_
      refine wot_o rfl (opt_move (by rfl) (by rfl)) (by rfl) (by rfl) (by rfl) ?_
      refine wot_o rfl (opt_add (by rfl) (by rfl) (by rfl) (by rfl) (by constructor <;> omega)) (by rfl) (by rfl) (by rfl) ?_
      refine wot_o rfl (opt_assign (by rfl) (by rfl)) (by rfl) (by rfl) (by rfl) ?_
      refine wot_nil ?_
      (refine qst_loop ?_)
      refine rnd (k + 1, addI zs (at' l k).n) (by (try simp only); omega) ?_ (by exact ⟨rfl, rfl, rfl, trivial⟩) (by rfl)
      try dsimp only
      have c : (at' l k).kind = 2 := c2
      refine ⟨by omega, by rw [regs_take (by omega), if_pos c, hz], ?_⟩
      have := addI_len zs (at' l k).n
      omega
    · (refine wct_skip ?_; refine qbt_normal ?_; refine qst_wct ?_)
      try simp only [Int.toNat_natCast] at c2
      refine wct_region (by simp) ?_
      refine wot_o rfl (opt_move (by rfl) (by rfl)) (by rfl) (by rfl) (by rfl) ?_
      refine wot_o rfl (opt_add (by rfl) (by rfl) (by rfl) (by rfl) (by constructor <;> omega)) (by rfl) (by rfl) (by rfl) ?_
      refine wot_o rfl (opt_assign (by rfl) (by rfl)) (by rfl) (by rfl) (by rfl) ?_
      refine wot_nil ?_
      (refine qst_loop ?_)
      refine rnd (k + 1, zs) (by (try simp only); omega) ?_ (by exact ⟨rfl, rfl, rfl, trivial⟩) (by rfl)
      try dsimp only
      have c : ¬ (at' l k).kind = 2 := c2
      exact ⟨by omega, by rw [regs_take (by omega), if_neg c, hz], by omega⟩
  · (refine wct_exit_seq ?_; refine qst_exit ?_; refine qbt_same ?_; refine qst_wct ?_)
    try simp only [Int.toNat_natCast] at c1
    refine wct_region_seq (by simp) ?_
    refine wot_o rfl (opt_move (by rfl) (by rfl)) (by rfl) (by rfl) (by rfl) ?_
    refine wot_o rfl (opt_assign (by rfl) (by rfl)) (by rfl) (by rfl) (by rfl) ?_
    refine wot_nil ?_
    (refine wct_ret ?_)
    refine fin_1c (by simp) rfl (by rfl) (by exact lst_cl _) ?_
    rw [hz, take_all hk c1]
theorem pu26 {i : Inst} : Pu Tryd.prog 26 [Enc.tv i] (Eq (lst false (usesI i))) := by
  refine pu_fn fn26 (by rfl) (by rfl) (by rfl) fun X hX hTb => ?_
  refine wct_region_seq (by simp) ?_
  refine wot_o rfl (opt_box_fz (by rfl) (by rfl) (by trivial)) (by rfl) (by rfl) (by rfl) ?_
  refine wot_o rfl (opt_assign_c (by rfl)) (by rfl) (by rfl) (by rfl) ?_
  refine wot_nil ?_
  refine wct_region_seq (by simp) ?_
  refine wot_o rfl (by exact opt_fieldAddr_fp (by rfl) (by rfl)) (by rfl) (by rfl) (by rfl) ?_
  refine wot_o (x := Enc.tv i.a) rfl (opt_as (by exact opt_load_fp_a (by rfl) (by rfl) (by rfl)) (by rfl)) (by rfl) (by rfl) (by rfl) ?_
  refine wot_o rfl (by exact opt_fieldAddr_fp (by rfl) (by rfl)) (by rfl) (by rfl) (by rfl) ?_
  refine wot_o (x := Enc.tv i.b) rfl (opt_as (by exact opt_load_fp_a (by rfl) (by rfl) (by rfl)) (by rfl)) (by rfl) (by rfl) (by rfl) ?_
  refine wot_o rfl (by exact opt_fieldAddr_fp (by rfl) (by rfl)) (by rfl) (by rfl) (by rfl) ?_
  refine wot_o (x := Enc.tv i.c) rfl (opt_as (by exact opt_load_fp_a (by rfl) (by rfl) (by rfl)) (by rfl)) (by rfl) (by rfl) (by rfl) ?_
  refine wot_o rfl (opt_lit_l ([i.a, i.b, i.c]) (by rfl) (by rfl) (by rfl) (by rfl) (by rfl) (by rfl) (by rfl) (by rfl) (by rfl) (by rfl)) (by rfl) (by rfl) (by rfl) ?_
  refine wot_c hTb rfl (call_bin (by rfl) (by rfl)) (by refine Drs.cons (by exact Dr.cl (by exact lst_cl _)) ?_; exact Drs.nil) (pu65 (by simp)) (by exact lst_cl _) (by rfl) (by rfl) (by rfl) ?_
  refine wot_o rfl (opt_assign (by rfl) (by rfl)) (by rfl) (by rfl) (by rfl) ?_
  refine wot_nil ?_
  (refine wct_ret ?_)
  refine fin_1c (by simp) rfl (by rfl) (by exact lst_cl _) ?_
  rfl
theorem pu82 {i : Term} : Pu Tryd.prog 82 [Enc.tv i] (Eq (lst false (usesT i))) := by
  refine pu_fn fn82 (by rfl) (by rfl) (by rfl) fun X hX hTb => ?_
  refine wct_region_seq (by simp) ?_
  refine wot_o rfl (opt_box_fz (by rfl) (by rfl) (by trivial)) (by rfl) (by rfl) (by rfl) ?_
  refine wot_o rfl (opt_assign_c (by rfl)) (by rfl) (by rfl) (by rfl) ?_
  refine wot_nil ?_
  refine wct_region_seq (by simp) ?_
  refine wot_o rfl (by exact opt_fieldAddr_fp (by rfl) (by rfl)) (by rfl) (by rfl) (by rfl) ?_
  refine wot_o (x := Enc.tv i.a) rfl (opt_as (by exact opt_load_fp_a (by rfl) (by rfl) (by rfl)) (by rfl)) (by rfl) (by rfl) (by rfl) ?_
  refine wot_o rfl (by exact opt_fieldAddr_fp (by rfl) (by rfl)) (by rfl) (by rfl) (by rfl) ?_
  refine wot_o (x := Enc.tv i.b) rfl (opt_as (by exact opt_load_fp_a (by rfl) (by rfl) (by rfl)) (by rfl)) (by rfl) (by rfl) (by rfl) ?_
  refine wot_o rfl (opt_lit_l ([i.a, i.b]) (by rfl) (by rfl) (by rfl) (by rfl) (by rfl) (by rfl) (by rfl) (by rfl) (by rfl) (by rfl)) (by rfl) (by rfl) (by rfl) ?_
  refine wot_c hTb rfl (call_bin (by rfl) (by rfl)) (by refine Drs.cons (by exact Dr.cl (by exact lst_cl _)) ?_; exact Drs.nil) (pu65 (by simp)) (by exact lst_cl _) (by rfl) (by rfl) (by rfl) ?_
  refine wot_o rfl (opt_assign (by rfl) (by rfl)) (by rfl) (by rfl) (by rfl) ?_
  refine wot_nil ?_
  (refine wct_ret ?_)
  refine fin_1c (by simp) rfl (by rfl) (by exact lst_cl _) ?_
  rfl
end Go.Ab
