/- The road to a card of this seat: G6. Each theorem holds for every input that its own premises speak of. -/
import Derived.Test.YtaaeeiheeihjaaaDoorG2
set_option linter.all false
namespace Go.Ab
open Go.Proofs
theorem pu58 {s : BS} {n : Int} (hn : n < 256) : Pu Tryd.prog 58 [Enc.tv s, ti n] (Eq (Enc.tv (withB s n))) := by
  have hs := s.h
  have hs1 : (Enc.tv s).cells.length = 4 := Enc.len s
  refine pu_fn fn58 (by rfl) (by rfl) (by rfl) fun X hX hTb => ?_
  refine wct_region_seq (by simp) ?_
  refine wot_o rfl (opt_box (by rfl) (by rfl) (by trivial)) (by rfl) (by rfl) (by rfl) ?_
  refine wot_o rfl (opt_alloc (by rfl)) (by rfl) (by rfl) (by rfl) ?_
  refine wot_nil ?_
  (refine wct_assoc ?_)
  refine wct_region_seq (by simp) ?_
  refine wot_o rfl (opt_move (by rfl) (by rfl)) (by rfl) (by rfl) (by rfl) ?_
  refine wot_o rfl (opt_cmp (by rfl) (by rfl) (by rfl) (by rfl) (by rfl)) (by rfl) (by rfl) (by rfl) ?_
  refine wot_nil ?_
  refine wct_if_seq (by rfl) (by rfl) (fun c1 => ?_) (fun c1 => ?_)
  · (skip)
    try simp only [Int.toNat_natCast] at c1
    obtain ⟨k, rfl⟩ : ∃ k : Nat, n = k := ⟨n.toNat, by omega⟩
    refine wct_draw_seq (by kernel_rfl) (u := []) (by kernel_rfl) ?_
    refine wtt_o rfl (opt_move (by rfl) (by rfl)) (by rfl) (by rfl) (by rfl) ?_
    refine wtt_o rfl (by exact opt_quoNC (by rfl) (by rfl) (by rfl) (by rfl) (by omega)) (by rfl) (by rfl) (by rfl) ?_
    refine wtt_o rfl (by exact opt_index_ptaN (by rfl) (by rfl) (by rfl) (by rfl) (by rfl) (by omega) (by omega)) (by rfl) (by rfl) (by rfl) ?_
    refine wtt_o rfl (by exact opt_load_l1 (by rfl) (by rfl) (by rfl) (by omega) (by rfl) (by rfl)) (by rfl) (by rfl) (by rfl) ?_
    refine wtt_o rfl (opt_move (by rfl) (by rfl)) (by rfl) (by rfl) (by rfl) ?_
    refine wtt_o rfl (by exact opt_remNC (by rfl) (by rfl) (by rfl) (by rfl)) (by rfl) (by rfl) (by rfl) ?_
    refine wtt_o rfl (by exact opt_shlC (by rfl) (by rfl) (by rfl) (by rfl) (by omega)) (by rfl) (by rfl) (by rfl) ?_
    refine wtt_o rfl (opt_orW (by rfl) (by rfl) (by rfl) (by rfl)) (by rfl) (by rfl) (by rfl) ?_
    refine wtt_o rfl (by exact opt_index_ptaN (by rfl) (by rfl) (by rfl) (by rfl) (by rfl) (by omega) (by omega)) (by rfl) (by rfl) (by rfl) ?_
    refine wtt_of0 rfl (by exact opt_store_l (by rfl) (by rfl) (by rfl) (by rfl) (by rfl) (by trivial) (by rfl) (by omega) (by rfl) (by rfl)) (EffOk.pure hX) (by rfl) (by rfl) ?_
    refine wtt_nil ?_
    refine ⟨trivial, ?_⟩
    refine wct_region_seq (by simp) ?_
    refine wot_o rfl (by exact opt_load_row (by rfl) (by rfl) (by rfl) (by exact (wflat_len _).trans (by simp only [List.length_set, BS.h, unionL_len])) (by rfl)) (by rfl) (by rfl) (by rfl) ?_
    refine wot_of0 rfl (by exact opt_store_row (by rfl) (by rfl) (by rfl) (by rfl) (by rfl) (by trivial) (by exact (wflat_len _).trans (by simp only [List.length_set, BS.h, unionL_len])) (by rfl) (by rfl)) (EffOk.pure hX) (by rfl) (by rfl) ?_
    refine wot_nil ?_
    (refine wct_ret ?_)
    refine finp_cell (by simp) rfl (by rfl) (by rfl) (by exact (wflat_len _).trans (by simp only [List.length_set, BS.h, unionL_len])) (by rfl) (Dr.cl (by exact arr_cl)) ?_
    rw [withB, if_pos c1]; rfl
  · (refine wct_skip_seq ?_)
    try simp only [Int.toNat_natCast] at c1
    refine wct_region_seq (by simp) ?_
    refine wot_o rfl (by exact opt_load_row (by rfl) (by rfl) (by rfl) (by assumption) (by rfl)) (by rfl) (by rfl) (by rfl) ?_
    refine wot_of0 rfl (by exact opt_store_row (by rfl) (by rfl) (by rfl) (by rfl) (by rfl) (by trivial) (by assumption) (by rfl) (by rfl)) (EffOk.pure hX) (by rfl) (by rfl) ?_
    refine wot_nil ?_
    (refine wct_ret ?_)
    refine finp_cell (by simp) rfl (by rfl) (by rfl) (by exact (wflat_len _).trans (by assumption)) (by rfl) (Dr.cl (by exact arr_cl)) ?_
    rw [withB, if_neg c1]; rfl
theorem pu78 {s : BS} {n : Int} (hn : n < 256) : Pu Tryd.prog 78 [Enc.tv s, ti n] (Eq (Enc.tv (withoutB s n))) := by
  have hs := s.h
  have hs1 : (Enc.tv s).cells.length = 4 := Enc.len s
  refine pu_fn fn78 (by rfl) (by rfl) (by rfl) fun X hX hTb => ?_
  refine wct_region_seq (by simp) ?_
  refine wot_o rfl (opt_box (by rfl) (by rfl) (by trivial)) (by rfl) (by rfl) (by rfl) ?_
  refine wot_o rfl (opt_alloc (by rfl)) (by rfl) (by rfl) (by rfl) ?_
  refine wot_nil ?_
  (refine wct_assoc ?_)
  refine wct_region_seq (by simp) ?_
  refine wot_o rfl (opt_move (by rfl) (by rfl)) (by rfl) (by rfl) (by rfl) ?_
  refine wot_o rfl (opt_cmp (by rfl) (by rfl) (by rfl) (by rfl) (by rfl)) (by rfl) (by rfl) (by rfl) ?_
  refine wot_nil ?_
  refine wct_if_seq (by rfl) (by rfl) (fun c1 => ?_) (fun c1 => ?_)
  · (skip)
    try simp only [Int.toNat_natCast] at c1
    obtain ⟨k, rfl⟩ : ∃ k : Nat, n = k := ⟨n.toNat, by omega⟩
    refine wct_draw_seq (by kernel_rfl) (u := []) (by kernel_rfl) ?_
    refine wtt_o rfl (opt_move (by rfl) (by rfl)) (by rfl) (by rfl) (by rfl) ?_
    refine wtt_o rfl (by exact opt_quoNC (by rfl) (by rfl) (by rfl) (by rfl) (by omega)) (by rfl) (by rfl) (by rfl) ?_
    refine wtt_o rfl (by exact opt_index_ptaN (by rfl) (by rfl) (by rfl) (by rfl) (by rfl) (by omega) (by omega)) (by rfl) (by rfl) (by rfl) ?_
    refine wtt_o rfl (by exact opt_load_l1 (by rfl) (by rfl) (by rfl) (by omega) (by rfl) (by rfl)) (by rfl) (by rfl) (by rfl) ?_
    refine wtt_o rfl (opt_move (by rfl) (by rfl)) (by rfl) (by rfl) (by rfl) ?_
    refine wtt_o rfl (by exact opt_remNC (by rfl) (by rfl) (by rfl) (by rfl)) (by rfl) (by rfl) (by rfl) ?_
    refine wtt_o rfl (by exact opt_shlC (by rfl) (by rfl) (by rfl) (by rfl) (by omega)) (by rfl) (by rfl) (by rfl) ?_
    refine wtt_o rfl (opt_andNotW (by rfl) (by rfl) (by rfl) (by rfl)) (by rfl) (by rfl) (by rfl) ?_
    refine wtt_o rfl (by exact opt_index_ptaN (by rfl) (by rfl) (by rfl) (by rfl) (by rfl) (by omega) (by omega)) (by rfl) (by rfl) (by rfl) ?_
    refine wtt_of0 rfl (by exact opt_store_l (by rfl) (by rfl) (by rfl) (by rfl) (by rfl) (by trivial) (by rfl) (by omega) (by rfl) (by rfl)) (EffOk.pure hX) (by rfl) (by rfl) ?_
    refine wtt_nil ?_
    refine ⟨trivial, ?_⟩
    refine wct_region_seq (by simp) ?_
    refine wot_o rfl (by exact opt_load_row (by rfl) (by rfl) (by rfl) (by exact (wflat_len _).trans (by simp only [List.length_set, BS.h, unionL_len])) (by rfl)) (by rfl) (by rfl) (by rfl) ?_
    refine wot_of0 rfl (by exact opt_store_row (by rfl) (by rfl) (by rfl) (by rfl) (by rfl) (by trivial) (by exact (wflat_len _).trans (by simp only [List.length_set, BS.h, unionL_len])) (by rfl) (by rfl)) (EffOk.pure hX) (by rfl) (by rfl) ?_
    refine wot_nil ?_
    (refine wct_ret ?_)
    refine finp_cell (by simp) rfl (by rfl) (by rfl) (by exact (wflat_len _).trans (by simp only [List.length_set, BS.h, unionL_len])) (by rfl) (Dr.cl (by exact arr_cl)) ?_
    rw [withoutB, if_pos c1]; rfl
  · (refine wct_skip_seq ?_)
    try simp only [Int.toNat_natCast] at c1
    refine wct_region_seq (by simp) ?_
    refine wot_o rfl (by exact opt_load_row (by rfl) (by rfl) (by rfl) (by assumption) (by rfl)) (by rfl) (by rfl) (by rfl) ?_
    refine wot_of0 rfl (by exact opt_store_row (by rfl) (by rfl) (by rfl) (by rfl) (by rfl) (by trivial) (by assumption) (by rfl) (by rfl)) (EffOk.pure hX) (by rfl) (by rfl) ?_
    refine wot_nil ?_
    (refine wct_ret ?_)
    refine finp_cell (by simp) rfl (by rfl) (by rfl) (by exact (wflat_len _).trans (by assumption)) (by rfl) (Dr.cl (by exact arr_cl)) ?_
    rw [withoutB, if_neg c1]; rfl
theorem pu53 {s t : BS} : Pu Tryd.prog 53 [Enc.tv s, Enc.tv t] (Eq (Enc.tv (unionB s t))) := by
  have hs := s.h
  have ht := t.h
  refine pu_fn fn53 (by rfl) (by rfl) (by rfl) fun X hX hTb => ?_
  refine wct_region_seq (by simp) ?_
  refine wot_o rfl (opt_box (by rfl) (by rfl) (by trivial)) (by rfl) (by rfl) (by rfl) ?_
  refine wot_o rfl (opt_box_fz (by rfl) (by rfl) (by trivial)) (by rfl) (by rfl) (by rfl) ?_
  refine wot_o rfl (opt_alloc (by rfl)) (by rfl) (by rfl) (by rfl) ?_
  refine wot_nil ?_
  (refine wct_assoc ?_)
  refine wct_region_seq (by simp) ?_
  refine wot_o rfl (by exact opt_load_fp_row (by rfl) (by rfl) (by exact (wflat_len _).trans (by assumption))) (by rfl) (by rfl) (by rfl) ?_
  refine wot_o rfl (opt_move_c (by rfl)) (by rfl) (by rfl) (by rfl) ?_
  refine wot_nil ?_
  refine wct_loop2 (fun (i : Nat) (ws : List W) => i ≤ 4 ∧ ws = unionL s t i ∧ ws.length = 4) (fun (i : Nat) (ws : List W) => [(2, .pt 0 0 0), (4, .pt 1 0 0), (7, Enc.tv t), (8, ti (i : Int))]) (fun (i : Nat) (ws : List W) => [rl 0 93 ws, rl 0 93 emptyB.ws]) (fun (i : Nat) (ws : List W) => 4 - i) 0 s.ws (by exact ⟨rfl, rfl, rfl, rfl, trivial⟩) (by rfl) ?_ ?_
  · exact ⟨by omega, (unionL_zero s t).symm, hs⟩
  rintro i ws ⟨hi, hw, hl⟩
  refine wct_region_seq (by simp) ?_
  refine wot_o rfl (opt_cmp (by rfl) (by rfl) (by rfl) (by rfl) (by rfl)) (by rfl) (by rfl) (by rfl) ?_
  refine wot_nil ?_
  refine wct_if_seq (by rfl) (by rfl) (fun c1 => ?_) (fun c1 => ?_)
  · (refine wct_skip_seq ?_; refine wct_block_sq ?_)
    try simp only [Int.toNat_natCast] at c1
    refine wct_region_seq (by simp) ?_
    refine wot_o rfl (opt_move (by rfl) (by rfl)) (by rfl) (by rfl) (by rfl) ?_
    refine wot_o rfl (by exact opt_index_arrN (by rfl) (by rfl) (by rfl) (by rfl) (by omega) (by omega) (by rfl) (by rfl)) (by rfl) (by rfl) (by rfl) ?_
    refine wot_o rfl (opt_assign (by rfl) (by rfl)) (by rfl) (by rfl) (by rfl) ?_
    refine wot_o rfl (opt_assign (by rfl) (by rfl)) (by rfl) (by rfl) (by rfl) ?_
    refine wot_nil ?_
    refine wct_region (by simp) ?_
    refine wot_o rfl (opt_move (by rfl) (by rfl)) (by rfl) (by rfl) (by rfl) ?_
    refine wot_o rfl (by exact opt_index_ptaN (by rfl) (by rfl) (by rfl) (by rfl) (by rfl) (by (rw [wflat_len]; omega)) (by omega)) (by rfl) (by rfl) (by rfl) ?_
    refine wot_o rfl (by exact opt_load_l1 (by rfl) (by rfl) (by rfl) (by omega) (by rfl) (by rfl)) (by rfl) (by rfl) (by rfl) ?_
    refine wot_o rfl (opt_move (by rfl) (by rfl)) (by rfl) (by rfl) (by rfl) ?_
    refine wot_o rfl (opt_orW (by rfl) (by rfl) (by rfl) (by rfl)) (by rfl) (by rfl) (by rfl) ?_
    refine wot_o rfl (by exact opt_index_ptaN (by rfl) (by rfl) (by rfl) (by rfl) (by rfl) (by (rw [wflat_len]; omega)) (by omega)) (by rfl) (by rfl) (by rfl) ?_
    refine wot_of0 rfl (by exact opt_store_l (by rfl) (by rfl) (by rfl) (by rfl) (by rfl) (by trivial) (by rfl) (by omega) (by rfl) (by rfl)) (EffOk.pure hX) (by rfl) (by rfl) ?_
    refine wot_nil ?_
    (refine qbt_normal ?_; refine qst_wct ?_)
    refine wct_region (by simp) ?_
    refine wot_o rfl (opt_add (by rfl) (by rfl) (by rfl) (by rfl) (by constructor <;> omega)) (by rfl) (by rfl) (by rfl) ?_
    refine wot_o rfl (opt_move (by rfl) (by rfl)) (by rfl) (by rfl) (by rfl) ?_
    refine wot_nil ?_
    (refine qst_loop ?_)
    refine rnd (i + 1, ws.set i (at' ws i ||| at' t.ws i)) (by (try simp only); omega) ?_ (by exact ⟨rfl, rfl, rfl, rfl, trivial⟩) (by rfl)
    try dsimp only
    exact ⟨by omega, by rw [hw, unionL_step (by omega)], by rw [List.length_set, hl]⟩
  · (refine wct_exit_seq ?_; refine qst_exit ?_; refine qbt_same ?_; refine qst_wct ?_)
    try simp only [Int.toNat_natCast] at c1
    refine wct_region_seq (by simp) ?_
    refine wot_o rfl (by exact opt_load_row (by rfl) (by rfl) (by rfl) (by exact (wflat_len _).trans (by assumption)) (by rfl)) (by rfl) (by rfl) (by rfl) ?_
    refine wot_of0 rfl (by exact opt_store_row (by rfl) (by rfl) (by rfl) (by rfl) (by rfl) (by trivial) (by exact (wflat_len _).trans (by assumption)) (by rfl) (by rfl)) (EffOk.pure hX) (by rfl) (by rfl) ?_
    refine wot_nil ?_
    (refine wct_ret ?_)
    refine finp_cell (by simp) rfl (by rfl) (by rfl) (by exact (wflat_len _).trans (by assumption)) (by rfl) (Dr.cl (by exact arr_cl)) ?_
    have : i = 4 := by omega
    subst this
    show TV.agg _ = TV.agg _
    rw [hw, unionL_four]; rfl
theorem pu55 {t : Bool} {l : List Int} (hl : ∀ r ∈ l, r < 256) : Pu Tryd.prog 55 [lst t l] (Eq (Enc.tv (ofB l))) := by
  refine pu_fn fn55 (by rfl) (by rfl) (by rfl) fun X hX hTb => ?_
  refine wct_region_seq (by simp) ?_
  refine wot_o rfl (opt_alloc (by rfl)) (by rfl) (by rfl) (by rfl) ?_
  refine wot_nil ?_
  refine wct_region_seq (by simp) ?_
  refine wot_o rfl (opt_alloc (by rfl)) (by rfl) (by rfl) (by rfl) ?_
  refine wot_nil ?_
  (refine wct_assoc ?_)
  refine wct_region_seq (by simp) ?_
  refine wot_o rfl (opt_move (by rfl) (by rfl)) (by rfl) (by rfl) (by rfl) ?_
  refine wot_o rfl (by exact opt_len_fz (by rfl) (by rfl) (by rfl)) (by rfl) (by rfl) (by rfl) ?_
  refine wot_o rfl (opt_move_c (by rfl)) (by rfl) (by rfl) (by rfl) ?_
  refine wot_nil ?_
  refine wct_fact (f_len (d := 0) rfl) fun hlen => ?_
  refine wct_loop2 (fun (i : Nat) (s : BS) => i ≤ l.length ∧ s = (l.take i).foldl withB emptyB) (fun (i : Nat) (s : BS) => [(2, .pt 0 0 0), (3, .pt 1 0 0), (6, lst t l), (7, ti (l.length : Int)), (8, ti (i : Int))]) (fun (i : Nat) (s : BS) => [rl 0 93 emptyB.ws, rl 0 93 s.ws]) (fun (i : Nat) (s : BS) => l.length - i) 0 emptyB (by exact ⟨rfl, rfl, rfl, rfl, rfl, trivial⟩) (by rfl) ?_ ?_
  · simp
  rintro i s ⟨hi, hs⟩
  refine wct_region_seq (by simp) ?_
  refine wot_o rfl (opt_cmp (by rfl) (by rfl) (by rfl) (by rfl) (by rfl)) (by rfl) (by rfl) (by rfl) ?_
  refine wot_nil ?_
  refine wct_if_seq (by rfl) (by rfl) (fun c1 => ?_) (fun c1 => ?_)
  · (refine wct_skip_seq ?_; refine wct_block_sq ?_)
    try simp only [Int.toNat_natCast] at c1
    have hr := hl _ (at_mem (xs := l) (k := i) (by omega))
    refine wct_region_seq (by simp) ?_
    refine wot_o rfl (by exact opt_index_lstN (by rfl) (by rfl) (by rfl) (by rfl) (by omega) (by rfl)) (by rfl) (by rfl) (by rfl) ?_
    refine wot_o rfl (by exact opt_load_fp_1 (by rfl) (by rfl) (by rfl)) (by rfl) (by rfl) (by rfl) ?_
    refine wot_o rfl (opt_assign (by rfl) (by rfl)) (by rfl) (by rfl) (by rfl) ?_
    refine wot_nil ?_
    refine wct_region (by simp) ?_
    refine wot_o (x := Enc.tv s) rfl (opt_as (by exact opt_load_row (by rfl) (by rfl) (by rfl) (by exact (wflat_len _).trans (by simp only [List.length_set, BS.h, unionL_len])) (by rfl)) (by rfl)) (by rfl) (by rfl) (by rfl) ?_
    refine wot_o rfl (opt_move (by rfl) (by rfl)) (by rfl) (by rfl) (by rfl) ?_
    refine wot_c hTb rfl (call_bin (by rfl) (by rfl)) (by refine Drs.cons (by exact Dr.cl (by exact Enc.cl _)) ?_; refine Drs.cons (by exact Dr.cl (by exact Cl.v _)) ?_; exact Drs.nil) (pu58 (by omega)) (by exact Enc.cl _) (by rfl) (by rfl) (by rfl) ?_
    refine wot_of0 rfl (by exact opt_store_row (by rfl) (by rfl) (by rfl) (by rfl) (by rfl) (by trivial) (by exact (wflat_len _).trans (by simp only [List.length_set, BS.h, unionL_len])) (by exact (wflat_len _).trans (by simp only [List.length_set, BS.h, unionL_len])) (by rfl)) (EffOk.pure hX) (by rfl) (by rfl) ?_
    refine wot_nil ?_
    (refine qbt_normal ?_; refine qst_wct ?_)
    refine wct_region (by simp) ?_
    refine wot_o rfl (opt_add (by rfl) (by rfl) (by rfl) (by rfl) (by constructor <;> omega)) (by rfl) (by rfl) (by rfl) ?_
    refine wot_o rfl (opt_move (by rfl) (by rfl)) (by rfl) (by rfl) (by rfl) ?_
    refine wot_nil ?_
    (refine qst_loop ?_)
    refine rnd (i + 1, withB s (at' l i)) (by (try simp only); omega) ?_ (by exact ⟨rfl, rfl, rfl, rfl, rfl, trivial⟩) (by rfl)
    try dsimp only
    exact ⟨by omega, by rw [take_succ (by omega), List.foldl_append, hs]; rfl⟩
  · (refine wct_exit_seq ?_; refine qst_exit ?_; refine qbt_same ?_; refine qst_wct ?_)
    try simp only [Int.toNat_natCast] at c1
    refine wct_region_seq (by simp) ?_
    refine wot_o rfl (by exact opt_load_row (by rfl) (by rfl) (by rfl) (by exact (wflat_len _).trans (by simp only [List.length_set, BS.h, unionL_len])) (by rfl)) (by rfl) (by rfl) (by rfl) ?_
    refine wot_of0 rfl (by exact opt_store_row (by rfl) (by rfl) (by rfl) (by rfl) (by rfl) (by trivial) (by exact (wflat_len _).trans (by simp only [List.length_set, BS.h, unionL_len])) (by rfl) (by rfl)) (EffOk.pure hX) (by rfl) (by rfl) ?_
    refine wot_nil ?_
    (refine wct_ret ?_)
    refine finp_cell (by simp) rfl (by rfl) (by rfl) (by exact (wflat_len _).trans (by simp only [List.length_set, BS.h, unionL_len])) (by rfl) (Dr.cl (by exact arr_cl)) ?_
    rw [hs, take_all hi c1]; rfl
end Go.Ab
