/- The road to a card of this seat: G15. Each theorem holds for every input that its own premises speak of. -/
import Derived.Test.YtaaeeiheeihjaaaDoorG14
set_option linter.all false
namespace Go.Ab
open Go.Proofs
theorem pu57 {xs : List Inst} : Pu Tryd.prog 57 [lst false xs] (Eq (.fn 85 [] [.fp false [lst false xs] 0])) := by
  refine pu_fn fn57 (by rfl) (by rfl) (by rfl) fun X hX hTb => ?_
  refine wct_region_seq (by simp) ?_
  refine wot_o rfl (opt_box_fz (by rfl) (by rfl) (by trivial)) (by rfl) (by rfl) (by rfl) ?_
  refine wot_o rfl (opt_assign_c (by rfl)) (by rfl) (by rfl) (by rfl) ?_
  refine wot_nil ?_
  refine wct_region_seq (by simp) ?_
  refine wot_o rfl (opt_makeFunc (by rfl) (by rfl) (by rfl) (by rfl) (by intro x hx; simp at hx; (subst hx); all_goals (exact .fp))) (by rfl) (by rfl) (by rfl) ?_
  refine wot_o rfl (opt_assign (by rfl) (by rfl)) (by rfl) (by rfl) (by rfl) ?_
  refine wot_nil ?_
  (refine wct_ret ?_)
  refine fin_1c (by simp) rfl (by rfl) (by exact cl_back) ?_
  rfl
theorem pu60 {i : Inst} {s : BS} (hd : dfn i < 256) (hu : ∀ r ∈ usesI i, r < 256) : Pu Tryd.prog 60 [Enc.tv i, Enc.tv s] (Eq (Enc.tv (beforeB i s))) := by
  refine pu_fn fn60 (by rfl) (by rfl) (by rfl) fun X hX hTb => ?_
  refine wct_region_seq (by simp) ?_
  refine wot_o rfl (opt_box_fz (by rfl) (by rfl) (by trivial)) (by rfl) (by rfl) (by rfl) ?_
  refine wot_o rfl (opt_box_fz (by rfl) (by rfl) (by trivial)) (by rfl) (by rfl) (by rfl) ?_
  refine wot_o rfl (opt_alloc (by rfl)) (by rfl) (by rfl) (by rfl) ?_
  refine wot_nil ?_
  refine wct_draw_seq (by kernel_rfl) (u := [(0, 2), (4, 2), (4, 3)]) (by kernel_rfl) ?_
  refine wtt_o (x := Enc.tv s) rfl (opt_as (by exact opt_load_fp_row (by rfl) (by rfl) (by exact (wflat_len _).trans (by simp only [List.length_set, BS.h, unionL_len]))) (by rfl)) (by rfl) (by rfl) (by rfl) ?_
  refine wtt_o (x := Enc.tv i) rfl (opt_as (by exact opt_load_fp_row (by rfl) (by rfl) (by rfl)) (by rfl)) (by rfl) (by rfl) (by rfl) ?_
  refine wtt_c hTb rfl (call_bin (by rfl) (by rfl)) (by refine Drs.cons (by exact Dr.cl (by exact Enc.cl _)) ?_; exact Drs.nil) (pu59) (by exact Cl.v _) (by rfl) (by rfl) (by rfl) ?_
  refine wtt_c hTb rfl (call_bin (by rfl) (by rfl)) (by refine Drs.cons (by exact Dr.cl (by exact Enc.cl _)) ?_; refine Drs.cons (by exact Dr.cl (by exact Cl.v _)) ?_; exact Drs.nil) (pu78 (by omega)) (by exact Enc.cl _) (by rfl) (by rfl) (by rfl) ?_
  refine wtt_o (x := Enc.tv i) rfl (opt_as (by exact opt_load_fp_row (by rfl) (by rfl) (by rfl)) (by rfl)) (by rfl) (by rfl) (by rfl) ?_
  refine wtt_c hTb rfl (call_bin (by rfl) (by rfl)) (by refine Drs.cons (by exact Dr.cl (by exact Enc.cl _)) ?_; exact Drs.nil) (pu87) (by exact lst_cl _) (by rfl) (by rfl) (by rfl) ?_
  refine wtt_c hTb rfl (call_bin (by rfl) (by rfl)) (by refine Drs.cons (by exact Dr.cl (by exact lst_cl _)) ?_; exact Drs.nil) (pu55 (by assumption)) (by exact Enc.cl _) (by rfl) (by rfl) (by rfl) ?_
  refine wtt_c hTb rfl (call_bin (by rfl) (by rfl)) (by refine Drs.cons (by exact Dr.cl (by exact Enc.cl _)) ?_; refine Drs.cons (by exact Dr.cl (by exact Enc.cl _)) ?_; exact Drs.nil) (pu53) (by exact Enc.cl _) (by rfl) (by rfl) (by rfl) ?_
  refine wtt_of0 rfl (by exact opt_store_row (by rfl) (by rfl) (by rfl) (by rfl) (by rfl) (by trivial) (by rfl) (by rfl) (by rfl)) (EffOk.pure hX) (by rfl) (by rfl) ?_
  refine wtt_nil ?_
  refine ⟨⟨(by exact ChkT.fp (by rfl) (by rfl) (by rfl) (by rfl) (by rfl)), (by exact ChkT.fp (by rfl) (by rfl) (by rfl) (by rfl) (by rfl)), (by exact ChkT.fp (by rfl) (by rfl) (by rfl) (by rfl) (by rfl)), trivial⟩, ?_⟩
  (refine wct_ret ?_)
  refine finp_cell (by simp) rfl (by rfl) (by rfl) (by rfl) (by rfl) (Dr.cl (by exact arr_cl)) ?_
  rfl
theorem pu46 {b : Block} {s : BS} {k : Nat} (hk : k ≤ b.i.length) (hb : ∀ i ∈ b.i, dfn i < 256 ∧ ∀ r ∈ usesI i, r < 256) : Pu Tryd.prog 46 [Enc.tv b, Enc.tv s, ti (k : Int)] (Eq (Enc.tv (atB b.i s k))) := by
  refine pu_fn fn46 (by rfl) (by rfl) (by rfl) fun X hX hTb => ?_
  refine wct_region_seq (by simp) ?_
  refine wot_o rfl (opt_box_fz (by rfl) (by rfl) (by trivial)) (by rfl) (by rfl) (by rfl) ?_
  refine wot_o rfl (opt_box (by rfl) (by rfl) (by trivial)) (by rfl) (by rfl) (by rfl) ?_
  refine wot_o rfl (opt_alloc (by rfl)) (by rfl) (by rfl) (by rfl) ?_
  refine wot_nil ?_
  (refine wct_assoc ?_)
  refine wct_region_seq (by simp) ?_
  refine wot_o rfl (by exact opt_fieldAddr_fp (by rfl) (by rfl)) (by rfl) (by rfl) (by rfl) ?_
  refine wot_o rfl (by exact opt_load_fp_1 (by rfl) (by rfl) (by rfl)) (by rfl) (by rfl) (by rfl) ?_
  refine wot_o rfl (opt_move (by rfl) (by rfl)) (by rfl) (by rfl) (by rfl) ?_
  refine wot_o rfl (by exact opt_slice_lo (by rfl) (by rfl) (by rfl) (by rfl) (by omega) (by rfl)) (by rfl) (by rfl) (by rfl) ?_
  refine wot_c hTb rfl (call_bin (by rfl) (by rfl)) (by refine Drs.cons (by exact Dr.cl (by exact lst_cl _)) ?_; exact Drs.nil) (pu57) (by exact cl_back) (by rfl) (by rfl) (by rfl) ?_
  refine wot_nil ?_
  refine wct_block_seq (wct_back (R := fun j => [rl 0 93 (atB (b.i.drop k) s j).ws, rl 0 93 emptyB.ws]) hX (by rfl) (by rfl) (by rfl) (by rfl) (by simp only [atB_len]; rfl) (fun j hj X' hX' hTb' hE => ?_) (fun _ => by rfl) (fun _ => by (refine ⟨by (intro c hc; exact Lo.cl (flat_cl _ c hc)), ?_⟩; refine ⟨by (exact lo_all rfl), ?_⟩; exact trivial)) ?_)
  · replace hTb := hTb'.trans hTb
    clear hTb' hX
    have hX := hX'
    obtain ⟨hd, hu⟩ := hb _ (List.mem_of_mem_drop (at_mem' (xs := b.i.drop k) hj))
    refine wct_region (by simp) ?_
    refine wot_o rfl (opt_alloc (by rfl)) (by rfl) (by rfl) (by rfl) ?_
    refine wot_of0 rfl (by exact opt_store_row (by rfl) (by rfl) (by rfl) (by rfl) (by rfl) (by trivial) (by rfl) (by rfl) (by rfl)) (hE _) (by rfl) (by rfl) ?_
    refine wot_nil ?_
    (refine wct_block1r ?_)
    refine wct_region (by simp) ?_
    refine wot_o (x := Enc.tv (at' (b.i.drop k) j)) rfl (opt_as (by exact opt_load_row (by rfl) (by rfl) (by rfl) (by rfl) (by rfl)) (by rfl)) (by rfl) (by rfl) (by rfl) ?_
    refine wot_o (x := Enc.tv (atB (b.i.drop k) s (j + 1))) rfl (opt_as (by exact opt_load_row (by rfl) (by rfl) (by rfl) (by exact (wflat_len _).trans (by simp only [List.length_set, BS.h, unionL_len])) (by rfl)) (by rfl)) (by rfl) (by rfl) (by rfl) ?_
    refine wot_c hTb rfl (call_bin (by rfl) (by rfl)) (by refine Drs.cons (by exact Dr.cl (by exact Enc.cl _)) ?_; refine Drs.cons (by exact Dr.cl (by exact Enc.cl _)) ?_; exact Drs.nil) (pu60 hd hu) (by exact Enc.cl _) (by rfl) (by rfl) (by rfl) ?_
    refine wot_of0 rfl (by exact opt_store_row (by rfl) (by rfl) (by rfl) (by rfl) (by rfl) (by trivial) (by rfl) (by exact (wflat_len _).trans (by simp only [List.length_set, BS.h, unionL_len])) (by rfl)) (hE _) (by rfl) (by rfl) ?_
    refine wot_nil ?_
    (refine qbt_normal ?_)
    exact ⟨rfl, [_], by simp only [atB_step hj]; rfl⟩
  (refine qbt_normal ?_; refine qst_wct ?_)
  refine wct_region_seq (by simp) ?_
  refine wot_o rfl (by exact opt_load_row (by rfl) (by rfl) (by rfl) (by exact (wflat_len _).trans (by simp only [List.length_set, BS.h, unionL_len])) (by rfl)) (by rfl) (by rfl) (by rfl) ?_
  refine wot_of0 rfl (by exact opt_store_row (by rfl) (by rfl) (by rfl) (by rfl) (by rfl) (by trivial) (by exact (wflat_len _).trans (by simp only [List.length_set, BS.h, unionL_len])) (by rfl) (by rfl)) (EffOk.pure hX) (by rfl) (by rfl) ?_
  refine wot_nil ?_
  (refine wct_ret ?_)
  refine finp_cell (by simp) rfl (by rfl) (by rfl) (by exact (wflat_len _).trans (by simp only [List.length_set, BS.h, unionL_len])) (by rfl) (Dr.cl (by exact arr_cl)) ?_
  rfl
end Go.Ab
