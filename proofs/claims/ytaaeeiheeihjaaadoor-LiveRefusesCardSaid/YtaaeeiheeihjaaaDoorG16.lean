/- The road to a card of this seat: G16. Each theorem holds for every input that its own premises speak of. -/
import Derived.Test.YtaaeeiheeihjaaaDoorG15
set_option linter.all false
namespace Go.Ab
open Go.Proofs
theorem pu44 {t : Term} : Pu Tryd.prog 44 [Enc.tv t] (Eq (lst false (succT t))) := by
  refine pu_fn fn44 (by rfl) (by rfl) (by rfl) fun X hX hTb => ?_
  refine wct_region_seq (by simp) ?_
  refine wot_o rfl (opt_box_fz (by rfl) (by rfl) (by trivial)) (by rfl) (by rfl) (by rfl) ?_
  refine wot_o rfl (opt_assign_c (by rfl)) (by rfl) (by rfl) (by rfl) ?_
  refine wot_nil ?_
  (refine wct_block_sq ?_)
  refine wct_region_seq (by simp) ?_
  refine wot_o rfl (by exact opt_fieldAddr_fp (by rfl) (by rfl)) (by rfl) (by rfl) (by rfl) ?_
  refine wot_o rfl (by exact opt_load_fp_1 (by rfl) (by rfl) (by rfl)) (by rfl) (by rfl) (by rfl) ?_
  refine wot_o rfl (opt_cmp (by rfl) (by rfl) (by rfl) (by rfl) (by rfl)) (by rfl) (by rfl) (by rfl) ?_
  refine wot_o rfl (opt_assign (by rfl) (by rfl)) (by rfl) (by rfl) (by rfl) ?_
  refine wot_nil ?_
  refine wct_if (by rfl) (by rfl) (fun c1 => ?_) (fun c1 => ?_)
  · (skip)
    try simp only [Int.toNat_natCast] at c1
    refine wct_region_seq (by simp) ?_
    refine wot_o rfl (opt_assign_nl (α := Int) (t := false) (by rfl) (by rfl)) (by rfl) (by rfl) (by rfl) ?_
    refine wot_nil ?_
    (refine wct_ret ?_; refine qbt_ret ?_; refine qst_ret ?_)
    refine fin_1c (by simp) rfl (by rfl) (by exact lst_cl _) ?_
    simp [succT, c1]
  · (skip)
    try simp only [Int.toNat_natCast] at c1
    refine wct_region_seq (by simp) ?_
    refine wot_o rfl (by exact opt_fieldAddr_fp (by rfl) (by rfl)) (by rfl) (by rfl) (by rfl) ?_
    refine wot_o rfl (by exact opt_load_fp_1 (by rfl) (by rfl) (by rfl)) (by rfl) (by rfl) (by rfl) ?_
    refine wot_o rfl (opt_cmp (by rfl) (by rfl) (by rfl) (by rfl) (by rfl)) (by rfl) (by rfl) (by rfl) ?_
    refine wot_o rfl (opt_move (by rfl) (by rfl)) (by rfl) (by rfl) (by rfl) ?_
    refine wot_split (d := 11) (by rfl) (fun g4 => ?_) (fun g4 => ?_)
    · refine wot_og rfl (by exact opt_fieldAddr_fp (by rfl) (by rfl)) (by rfl) (by rfl) (by rfl) (by rfl) (by rfl) (by rfl) ?_
      refine wot_og rfl (by exact opt_index_fpa (by rfl) (by rfl) (by rfl) (by rfl) (by omega) (by omega)) (by rfl) (by rfl) (by rfl) (by rfl) (by rfl) (by rfl) ?_
      refine wot_og rfl (by exact opt_load_fp_1 (by rfl) (by rfl) (by rfl)) (by rfl) (by rfl) (by rfl) (by rfl) (by rfl) (by rfl) ?_
      refine wot_og rfl (by exact opt_fieldAddr_fp (by rfl) (by rfl)) (by rfl) (by rfl) (by rfl) (by rfl) (by rfl) (by rfl) ?_
      refine wot_og rfl (by exact opt_index_fpa (by rfl) (by rfl) (by rfl) (by rfl) (by omega) (by omega)) (by rfl) (by rfl) (by rfl) (by rfl) (by rfl) (by rfl) ?_
      refine wot_og rfl (by exact opt_load_fp_1 (by rfl) (by rfl) (by rfl)) (by rfl) (by rfl) (by rfl) (by rfl) (by rfl) (by rfl) ?_
      refine wot_og rfl (opt_cmp (by rfl) (by rfl) (by rfl) (by rfl) (by rfl)) (by rfl) (by rfl) (by rfl) (by rfl) (by rfl) (by rfl) ?_
      refine wot_o rfl (by exact opt_pick_t (by rfl) (by rfl) (by rfl) (by rfl) (by rfl) (by rfl) (by rfl)) (by rfl) (by rfl) (by rfl) ?_
      refine wot_o rfl (opt_assign (by rfl) (by rfl)) (by rfl) (by rfl) (by rfl) ?_
      refine wot_nil ?_
      refine wct_if (by rfl) (by rfl) (fun c2 => ?_) (fun c2 => ?_)
      · (skip)
        try simp only [Int.toNat_natCast] at c2
        refine wct_region_seq (by simp) ?_
        refine wot_o rfl (by exact opt_fieldAddr_fp (by rfl) (by rfl)) (by rfl) (by rfl) (by rfl) ?_
        refine wot_o (x := lst false [t.to0, t.to1]) rfl (opt_as (opt_slice_arr (i := 0) (g := 0) (e' := 0) (l := 0) (h := 2) (by rfl) (by rfl) rfl rfl (by decide) (by decide) (Nat.le_of_ble_eq_true rfl) (by decide) (by decide) (by decide)) (by rfl)) (by rfl) (by rfl) (by rfl) ?_
        refine wot_o rfl (opt_assign (by rfl) (by rfl)) (by rfl) (by rfl) (by rfl) ?_
        refine wot_nil ?_
        (refine wct_ret ?_; refine qbt_ret ?_; refine qst_ret ?_)
        refine fin_1c (by simp) rfl (by rfl) (by exact lst_cl _) ?_
        simp [succT, g4, c2]
      · (refine wct_skip ?_; refine qbt_normal ?_; refine qst_wct ?_)
        try simp only [Int.toNat_natCast] at c2
        refine wct_region_seq (by simp) ?_
        refine wot_o rfl (by exact opt_fieldAddr_fp (by rfl) (by rfl)) (by rfl) (by rfl) (by rfl) ?_
        refine wot_o rfl (by exact opt_index_fpa (by rfl) (by rfl) (by rfl) (by rfl) (by omega) (by omega)) (by rfl) (by rfl) (by rfl) ?_
        refine wot_o rfl (by exact opt_load_fp_1 (by rfl) (by rfl) (by rfl)) (by rfl) (by rfl) (by rfl) ?_
        refine wot_o rfl (opt_lit_l ([t.to0]) (by rfl) (by rfl) (by rfl) (by rfl) (by rfl) (by rfl) (by rfl) (by rfl) (by rfl) (by rfl)) (by rfl) (by rfl) (by rfl) ?_
        refine wot_o rfl (opt_assign (by rfl) (by rfl)) (by rfl) (by rfl) (by rfl) ?_
        refine wot_nil ?_
        (refine wct_ret ?_)
        refine fin_1c (by simp) rfl (by rfl) (by exact lst_cl _) ?_
        have : t.to0 = t.to1 := Decidable.not_not.1 c2
        simp [succT, g4, this]
    · refine wot_sg (by rfl) (by rfl) (by rfl) (by rfl) (by rfl) (by rfl) ?_
      refine wot_sg (by rfl) (by rfl) (by rfl) (by rfl) (by rfl) (by rfl) ?_
      refine wot_sg (by rfl) (by rfl) (by rfl) (by rfl) (by rfl) (by rfl) ?_
      refine wot_sg (by rfl) (by rfl) (by rfl) (by rfl) (by rfl) (by rfl) ?_
      refine wot_sg (by rfl) (by rfl) (by rfl) (by rfl) (by rfl) (by rfl) ?_
      refine wot_sg (by rfl) (by rfl) (by rfl) (by rfl) (by rfl) (by rfl) ?_
      refine wot_sg (by rfl) (by rfl) (by rfl) (by rfl) (by rfl) (by rfl) ?_
      refine wot_o rfl (by exact opt_pick_f (by rfl) (by rfl) (by rfl) (by rfl) (by rfl) (by rfl) (by rfl)) (by rfl) (by rfl) (by rfl) ?_
      refine wot_o rfl (opt_assign (by rfl) (by rfl)) (by rfl) (by rfl) (by rfl) ?_
      refine wot_nil ?_
      refine wct_ff (by rfl) (by rfl) ?_
      (refine wct_skip ?_; refine qbt_normal ?_; refine qst_wct ?_)
      refine wct_region_seq (by simp) ?_
      refine wot_o rfl (by exact opt_fieldAddr_fp (by rfl) (by rfl)) (by rfl) (by rfl) (by rfl) ?_
      refine wot_o rfl (by exact opt_index_fpa (by rfl) (by rfl) (by rfl) (by rfl) (by omega) (by omega)) (by rfl) (by rfl) (by rfl) ?_
      refine wot_o rfl (by exact opt_load_fp_1 (by rfl) (by rfl) (by rfl)) (by rfl) (by rfl) (by rfl) ?_
      refine wot_o rfl (opt_lit_l ([t.to0]) (by rfl) (by rfl) (by rfl) (by rfl) (by rfl) (by rfl) (by rfl) (by rfl) (by rfl) (by rfl)) (by rfl) (by rfl) (by rfl) ?_
      refine wot_o rfl (opt_assign (by rfl) (by rfl)) (by rfl) (by rfl) (by rfl) ?_
      refine wot_nil ?_
      (refine wct_ret ?_)
      refine fin_1c (by simp) rfl (by rfl) (by exact lst_cl _) ?_
      simp [succT, c1, g4]
theorem pu45 {t : Term} {u : Bool} {ins : List BS} (hto : ∀ s ∈ succT t, 0 ≤ s ∧ s < ins.length) (hd : dfnT t < 256) (hu : ∀ r ∈ usesT t, r < 256) : Pu Tryd.prog 45 [Enc.tv t, lst u ins] (Eq (Enc.tv (neededB t ins))) := by
  have h2 := succT_len t
  refine pu_fn fn45 (by rfl) (by rfl) (by rfl) fun X hX hTb => ?_
  refine wct_region_seq (by simp) ?_
  refine wot_o rfl (opt_box_fz (by rfl) (by rfl) (by trivial)) (by rfl) (by rfl) (by rfl) ?_
  refine wot_o rfl (opt_alloc (by rfl)) (by rfl) (by rfl) (by rfl) ?_
  refine wot_nil ?_
  refine wct_region_seq (by simp) ?_
  refine wot_o rfl (opt_alloc (by rfl)) (by rfl) (by rfl) (by rfl) ?_
  refine wot_nil ?_
  (refine wct_assoc ?_)
  refine wct_region_seq (by simp) ?_
  refine wot_o rfl (by exact opt_load_fp_row (by rfl) (by rfl) (by rfl)) (by rfl) (by rfl) (by rfl) ?_
  refine wot_c hTb rfl (call_bin (by rfl) (by rfl)) (by refine Drs.cons (by exact Dr.cl (by exact Cl.agg (cls_cl _))) ?_; exact Drs.nil) (pu44) (by exact lst_cl _) (by rfl) (by rfl) (by rfl) ?_
  refine wot_o rfl (by exact opt_len_fz (by rfl) (by rfl) (by rfl)) (by rfl) (by rfl) (by rfl) ?_
  refine wot_o rfl (opt_move_c (by rfl)) (by rfl) (by rfl) (by rfl) ?_
  refine wot_nil ?_
  refine wct_loop2 (fun (k : Nat) (s : BS) => k ≤ (succT t).length ∧ s = succB ((succT t).take k) ins) (fun (k : Nat) (s : BS) => [(1, lst u ins), (2, .fp false (cls t) 0), (4, .pt 0 0 0), (5, .pt 1 0 0), (9, lst false (succT t)), (10, ti ((succT t).length : Int)), (11, ti (k : Int))]) (fun (k : Nat) (s : BS) => [rl 0 93 emptyB.ws, rl 0 93 s.ws]) (fun (k : Nat) (s : BS) => (succT t).length - k) 0 emptyB (by exact ⟨rfl, rfl, rfl, rfl, rfl, rfl, rfl, trivial⟩) (by rfl) ?_ ?_
  · exact ⟨by omega, rfl⟩
  rintro k s ⟨hk, hs⟩
  refine wct_region_seq (by simp) ?_
  refine wot_o rfl (opt_cmp (by rfl) (by rfl) (by rfl) (by rfl) (by rfl)) (by rfl) (by rfl) (by rfl) ?_
  refine wot_nil ?_
  refine wct_if_seq (by rfl) (by rfl) (fun c1 => ?_) (fun c1 => ?_)
  · (refine wct_skip_seq ?_; refine wct_block_sq ?_)
    try simp only [Int.toNat_natCast] at c1
    have h3 := hto _ (at_mem (xs := succT t) (k := k) (by omega))
    refine wct_region_seq (by simp) ?_
    refine wot_o rfl (by exact opt_index_lstN (by rfl) (by rfl) (by rfl) (by rfl) (by omega) (by rfl)) (by rfl) (by rfl) (by rfl) ?_
    refine wot_o rfl (by exact opt_load_fp_1 (by rfl) (by rfl) (by rfl)) (by rfl) (by rfl) (by rfl) ?_
    refine wot_o rfl (opt_assign (by rfl) (by rfl)) (by rfl) (by rfl) (by rfl) ?_
    refine wot_nil ?_
    refine wct_draw (by kernel_rfl) (u := []) (by kernel_rfl) ?_
    refine wtt_o (x := Enc.tv s) rfl (opt_as (by exact opt_load_row (by rfl) (by rfl) (by rfl) (by exact (wflat_len _).trans (by simp only [List.length_set, BS.h, unionL_len])) (by rfl)) (by rfl)) (by rfl) (by rfl) (by rfl) ?_
    refine wtt_o rfl (opt_move (by rfl) (by rfl)) (by rfl) (by rfl) (by rfl) ?_
    refine wtt_o rfl (opt_move (by rfl) (by rfl)) (by rfl) (by rfl) (by rfl) ?_
    refine wtt_o rfl (by exact opt_index_lst (by rfl) (by rfl) (by rfl) (by rfl) (by omega) (by omega) (by rfl)) (by rfl) (by rfl) (by rfl) ?_
    refine wtt_o (x := Enc.tv (at' ins (at' (succT t) k).toNat)) rfl (opt_as (by exact opt_load_fp_row (by rfl) (by rfl) (by exact (wflat_len _).trans (by simp only [List.length_set, BS.h, unionL_len]))) (by rfl)) (by rfl) (by rfl) (by rfl) ?_
    refine wtt_c hTb rfl (call_bin (by rfl) (by rfl)) (by refine Drs.cons (by exact Dr.cl (by exact Enc.cl _)) ?_; refine Drs.cons (by exact Dr.cl (by exact Enc.cl _)) ?_; exact Drs.nil) (pu53) (by exact Enc.cl _) (by rfl) (by rfl) (by rfl) ?_
    refine wtt_of0 rfl (by exact opt_store_row (by rfl) (by rfl) (by rfl) (by rfl) (by rfl) (by trivial) (by rfl) (by exact (wflat_len _).trans (by simp only [List.length_set, BS.h, unionL_len])) (by rfl)) (EffOk.pure hX) (by rfl) (by rfl) ?_
    refine wtt_nil ?_
    refine ⟨trivial, ?_⟩
    (refine qbt_normal ?_; refine qst_wct ?_)
    refine wct_region (by simp) ?_
    refine wot_o rfl (opt_add (by rfl) (by rfl) (by rfl) (by rfl) (by constructor <;> omega)) (by rfl) (by rfl) (by rfl) ?_
    refine wot_o rfl (opt_move (by rfl) (by rfl)) (by rfl) (by rfl) (by rfl) ?_
    refine wot_nil ?_
    (refine qst_loop ?_)
    refine rnd (k + 1, unionB s (at' ins (at' (succT t) k).toNat)) (by (try simp only); omega) ?_ (by exact ⟨rfl, rfl, rfl, rfl, rfl, rfl, rfl, trivial⟩) (by rfl)
    try dsimp only
    exact ⟨by omega, by rw [succB_take (by omega), hs]⟩
  · (refine wct_exit_seq ?_; refine qst_exit ?_; refine qbt_same ?_; refine qst_wct ?_)
    try simp only [Int.toNat_natCast] at c1
    refine wct_draw_seq (by kernel_rfl) (u := [(0, 2), (4, 2), (4, 3)]) (by kernel_rfl) ?_
    refine wtt_o (x := Enc.tv s) rfl (opt_as (by exact opt_load_row (by rfl) (by rfl) (by rfl) (by exact (wflat_len _).trans (by simp only [List.length_set, BS.h, unionL_len])) (by rfl)) (by rfl)) (by rfl) (by rfl) (by rfl) ?_
    refine wtt_o (x := Enc.tv t) rfl (opt_as (by exact opt_load_fp_row (by rfl) (by rfl) (by rfl)) (by rfl)) (by rfl) (by rfl) (by rfl) ?_
    refine wtt_c hTb rfl (call_bin (by rfl) (by rfl)) (by refine Drs.cons (by exact Dr.cl (by exact Enc.cl _)) ?_; exact Drs.nil) (pu61) (by exact Cl.v _) (by rfl) (by rfl) (by rfl) ?_
    refine wtt_c hTb rfl (call_bin (by rfl) (by rfl)) (by refine Drs.cons (by exact Dr.cl (by exact Enc.cl _)) ?_; refine Drs.cons (by exact Dr.cl (by exact Cl.v _)) ?_; exact Drs.nil) (pu78 (by omega)) (by exact Enc.cl _) (by rfl) (by rfl) (by rfl) ?_
    refine wtt_o (x := Enc.tv t) rfl (opt_as (by exact opt_load_fp_row (by rfl) (by rfl) (by rfl)) (by rfl)) (by rfl) (by rfl) (by rfl) ?_
    refine wtt_c hTb rfl (call_bin (by rfl) (by rfl)) (by refine Drs.cons (by exact Dr.cl (by exact Enc.cl _)) ?_; exact Drs.nil) (pu79) (by exact lst_cl _) (by rfl) (by rfl) (by rfl) ?_
    refine wtt_c hTb rfl (call_bin (by rfl) (by rfl)) (by refine Drs.cons (by exact Dr.cl (by exact lst_cl _)) ?_; exact Drs.nil) (pu55 (by assumption)) (by exact Enc.cl _) (by rfl) (by rfl) (by rfl) ?_
    refine wtt_c hTb rfl (call_bin (by rfl) (by rfl)) (by refine Drs.cons (by exact Dr.cl (by exact Enc.cl _)) ?_; refine Drs.cons (by exact Dr.cl (by exact Enc.cl _)) ?_; exact Drs.nil) (pu53) (by exact Enc.cl _) (by rfl) (by rfl) (by rfl) ?_
    refine wtt_of0 rfl (by exact opt_store_row (by rfl) (by rfl) (by rfl) (by rfl) (by rfl) (by trivial) (by rfl) (by rfl) (by rfl)) (EffOk.pure hX) (by rfl) (by rfl) ?_
    refine wtt_nil ?_
    refine ⟨⟨(by exact chk_pt (t := 93) (by rfl) (by rfl) (by rfl) (by rfl) (by rfl) (by rfl) (by rfl) (by rfl) (by (rw [wflat_len, BS.h]; rfl))), (by exact ChkT.fp (by rfl) (by rfl) (by rfl) (by rfl) (by rfl)), (by exact ChkT.fp (by rfl) (by rfl) (by rfl) (by rfl) (by rfl)), trivial⟩, ?_⟩
    (refine wct_ret ?_)
    refine finp_cell (by simp) rfl (by rfl) (by rfl) (by rfl) (by rfl) (Dr.cl (by exact arr_cl)) ?_
    rw [hs, take_all hk c1]; rfl
end Go.Ab
