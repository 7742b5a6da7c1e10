/- The road to a card of this seat: G14. Each theorem holds for every input that its own premises speak of. -/
import Derived.Test.YtaaeeiheeihjaaaDoorG13
set_option linter.all false
namespace Go.Ab
open Go.Proofs
def rawR (l : List Opd) : List Int := (l.filter fun o => decide (o.kind = 2)).map (·.n)
theorem rawR_take {l : List Opd} {k : Nat} (h : k < l.length) : rawR (l.take (k + 1)) = if (at' l k).kind = 2 then rawR (l.take k) ++ [(at' l k).n] else rawR (l.take k) := by
  unfold rawR
  rw [take_succ h, List.filter_append, List.map_append]
  split <;> rename_i h <;> simp [h]
theorem mem_rawR {l : List Opd} {r : Int} : r ∈ rawR l ↔ r ∈ regsOf l := by
  rw [mem_regsOf, rawR]
  simp only [List.mem_map, List.mem_filter, decide_eq_true_eq]
  constructor
  · rintro ⟨o, ⟨h1, h2⟩, rfl⟩; exact ⟨o, h1, h2, rfl⟩
  · rintro ⟨o, h1, h2, rfl⟩; exact ⟨o, ⟨h1, h2⟩, rfl⟩
theorem pu102 {t : Bool} {l : List Opd} (hl : l.length ≤ 3) : Pu Tryd.prog 102 [lst t l] (Eq (lst false (regsOf l))) := by
  refine pu_fn fn102 (by rfl) (by rfl) (by rfl) fun X hX hTb => ?_
  refine wct_region_seq (by simp) ?_
  refine wot_o rfl (opt_assign_c (by rfl)) (by rfl) (by rfl) (by rfl) ?_
  refine wot_nil ?_
  refine wct_region_seq (by simp) ?_
  refine wot_o rfl (opt_assign_c (by rfl)) (by rfl) (by rfl) (by rfl) ?_
  refine wot_nil ?_
  (refine wct_assoc ?_)
  refine wct_ghost (g_nil (d := 3) 1 3 (by rfl)) ?_
  refine wct_region_seq (by simp) ?_
  refine wot_o rfl (opt_move (by rfl) (by rfl)) (by rfl) (by rfl) (by rfl) ?_
  refine wot_o rfl (by exact opt_len_fz (by rfl) (by rfl) (by rfl)) (by rfl) (by rfl) (by rfl) ?_
  refine wot_o rfl (opt_move_c (by rfl)) (by rfl) (by rfl) (by rfl) ?_
  refine wot_nil ?_
  refine wct_loop3 (fun (k : Nat) (g : Nat) (zs : List Int) => k ≤ l.length ∧ zs = rawR (l.take k) ∧ zs.length ≤ k) (fun (k : Nat) (g : Nat) (zs : List Int) => [(3, ownl 0 g zs), (6, lst t l), (7, ti (l.length : Int)), (8, ti (k : Int))]) (fun (k : Nat) (g : Nat) (zs : List Int) => [rl g 3 zs]) (fun (k : Nat) (g : Nat) (zs : List Int) => l.length - k) 0 0 [] (by exact ⟨rfl, rfl, rfl, rfl, trivial⟩) (by rfl) ?_ ?_
  · exact ⟨by omega, rfl, by simp⟩
  rintro k g zs ⟨hk, hz, hzk⟩
  refine wct_region_seq (by simp) ?_
  refine wot_o rfl (opt_cmp (by rfl) (by rfl) (by rfl) (by rfl) (by rfl)) (by rfl) (by rfl) (by rfl) ?_
  refine wot_nil ?_
  refine wct_if_seq (by rfl) (by rfl) (fun c1 => ?_) (fun c1 => ?_)
  · (refine wct_skip_seq ?_; refine wct_block_sq ?_)
    try simp only [Int.toNat_natCast] at c1
    refine wct_region_seq (by simp) ?_
    refine wot_o rfl (by exact opt_index_lstN (by rfl) (by rfl) (by rfl) (by rfl) (by omega) (by rfl)) (by rfl) (by rfl) (by rfl) ?_
    refine wot_o rfl (by exact opt_load_fp_row (by rfl) (by rfl) (by rfl)) (by rfl) (by rfl) (by rfl) ?_
    refine wot_o rfl (opt_alloc (by rfl)) (by rfl) (by rfl) (by rfl) ?_
    refine wot_of0 rfl (by exact opt_store_row (by rfl) (by rfl) (by rfl) (by rfl) (by rfl) (by trivial) (by rfl) (by rfl) (by rfl)) (EffOk.pure hX) (by rfl) (by rfl) ?_
    refine wot_nil ?_
    refine wct_region_seq (by simp) ?_
    refine wot_o rfl (by exact opt_fieldAddr_pt (by rfl) (by rfl) (by rfl) (by rfl)) (by rfl) (by rfl) (by rfl) ?_
    refine wot_o rfl (by exact opt_load_pt_1 (by rfl) (by rfl) (by rfl) (by rfl)) (by rfl) (by rfl) (by rfl) ?_
    refine wot_o rfl (opt_cmp (by rfl) (by rfl) (by rfl) (by rfl) (by rfl)) (by rfl) (by rfl) (by rfl) ?_
    refine wot_nil ?_
    refine wct_if (by rfl) (by rfl) (fun c2 => ?_) (fun c2 => ?_)
    · (skip)
      try simp only [Int.toNat_natCast] at c2
      refine wct_region (by simp) ?_
      refine wot_o rfl (opt_move (by rfl) (by rfl)) (by rfl) (by rfl) (by rfl) ?_
      refine wot_o rfl (by exact opt_fieldAddr_pt (by rfl) (by rfl) (by rfl) (by rfl)) (by rfl) (by rfl) (by rfl) ?_
      refine wot_o rfl (by exact opt_load_pt_1 (by rfl) (by rfl) (by rfl) (by rfl)) (by rfl) (by rfl) (by rfl) ?_
      refine wot_o rfl (opt_lit_l ([(at' l k).n]) (by rfl) (by rfl) (by rfl) (by rfl) (by rfl) (by rfl) (by rfl) (by rfl) (by rfl) (by rfl)) (by rfl) (by rfl) (by rfl) ?_
      refine wot_of rfl (by exact opt_append_l (by rfl) (by rfl) (by rfl) (by rfl) src_lst (by rfl) (by rfl) (by rfl) (by (simp only [List.length_append, List.length_cons, List.length_nil, List.length_take, List.length_drop]; omega)) (by rfl)) (EffOk.pure hX) (by rfl) (by rfl) (by rfl) ?_
      refine wot_o rfl (opt_assign (by rfl) (by rfl)) (by rfl) (by rfl) (by rfl) ?_
      refine wot_nil ?_
      (refine qbt_normal ?_; refine qst_wct ?_)
      refine wct_ghost (g_pop (F := [(3, _), (6, lst t l), (7, ti (l.length : Int)), (8, ti (k : Int))]) (Th1 := [rl _ 3 _]) (by rfl) (by (rw [hX]; exact Nat.zero_le _)) (by exact ⟨rfl, rfl, rfl, rfl, trivial⟩) (by refine ⟨by exact Lo.own (by rfl), ?_⟩; refine ⟨by exact Lo.fz (fun c hc => Lo.cl (flat_cl _ c hc)), ?_⟩; refine ⟨by exact Lo.cl (Cl.v _), ?_⟩; refine ⟨by exact Lo.cl (Cl.v _), ?_⟩; exact trivial) (by refine ⟨by (intro c hc; exact Lo.cl (flat_cl _ c hc)), ?_⟩; exact trivial)) ?_
      refine wct_region (by simp) ?_
      refine wot_o rfl (opt_add (by rfl) (by rfl) (by rfl) (by rfl) (by constructor <;> omega)) (by rfl) (by rfl) (by rfl) ?_
      refine wot_o rfl (opt_move (by rfl) (by rfl)) (by rfl) (by rfl) (by rfl) ?_
      refine wot_nil ?_
      (refine qst_loop ?_)
      refine rnd (k + 1, g + 1, zs ++ [(at' l k).n]) (by (try simp only); omega) ?_ (by exact ⟨rfl, rfl, rfl, rfl, trivial⟩) (by rfl)
      try dsimp only
      have c : (at' l k).kind = 2 := c2
      refine ⟨by omega, by rw [rawR_take (by omega), if_pos c, hz], by simp; omega⟩
    · (refine wct_skip ?_; refine qbt_normal ?_; refine qst_wct ?_)
      try simp only [Int.toNat_natCast] at c2
      refine wct_ghost (g_pop (F := [(3, _), (6, lst t l), (7, ti (l.length : Int)), (8, ti (k : Int))]) (Th1 := [rl _ 3 _]) (by rfl) (by (rw [hX]; exact Nat.zero_le _)) (by exact ⟨rfl, rfl, rfl, rfl, trivial⟩) (by refine ⟨by exact Lo.own (by rfl), ?_⟩; refine ⟨by exact Lo.fz (fun c hc => Lo.cl (flat_cl _ c hc)), ?_⟩; refine ⟨by exact Lo.cl (Cl.v _), ?_⟩; refine ⟨by exact Lo.cl (Cl.v _), ?_⟩; exact trivial) (by refine ⟨by (intro c hc; exact Lo.cl (flat_cl _ c hc)), ?_⟩; exact trivial)) ?_
      refine wct_region (by simp) ?_
      refine wot_o rfl (opt_add (by rfl) (by rfl) (by rfl) (by rfl) (by constructor <;> omega)) (by rfl) (by rfl) (by rfl) ?_
      refine wot_o rfl (opt_move (by rfl) (by rfl)) (by rfl) (by rfl) (by rfl) ?_
      refine wot_nil ?_
      (refine qst_loop ?_)
      refine rnd (k + 1, g, zs) (by (try simp only); omega) ?_ (by exact ⟨rfl, rfl, rfl, rfl, trivial⟩) (by rfl)
      try dsimp only
      have c : ¬ (at' l k).kind = 2 := c2
      exact ⟨by omega, by rw [rawR_take (by omega), if_neg c, hz], by omega⟩
  · (refine wct_exit_seq ?_; refine qst_exit ?_; refine qbt_same ?_; refine qst_wct ?_)
    try simp only [Int.toNat_natCast] at c1
    refine wct_region_seq (by simp) ?_
    refine wot_o rfl (opt_move (by rfl) (by rfl)) (by rfl) (by rfl) (by rfl) ?_
    refine wot_ci hTb rfl (call_bin (by rfl) (by rfl)) (im90 rfl (by omega)) (fun _ _ _ h => h.2) (EffOk.pure hX) (by rfl) (by rfl) (by rfl) ?_
    rintro r Th' ⟨⟨ys, rfl, hyl, hys, hym⟩, _⟩
    refine wot_nil ?_
    refine wct_region_seq (by simp) ?_
    refine wot_o rfl (opt_move (by rfl) (by rfl)) (by rfl) (by rfl) (by rfl) ?_
    refine wot_ci hTb rfl (call_bin (by rfl) (by rfl)) (im106 hyl (by omega) hys) (fun _ _ _ h => h.2) (EffOk.pure hX) (by rfl) (by rfl) (by rfl) ?_
    rintro r Th' ⟨⟨m, zs', rfl, rfl, hm, hzl, hpw, hmem⟩, _⟩
    refine wot_o rfl (opt_assign (by rfl) (by rfl)) (by rfl) (by rfl) (by rfl) ?_
    refine wot_nil ?_
    (refine wct_ret ?_)
    refine fin_1 (by simp) rfl (by rfl) (by exact dr_pre (by rfl) (by omega) (by rfl) (by omega) (by omega)) ?_
    have hz : zs = rawR l := by rw [hz, take_all hk c1]
    refine congrArg (lst false) (ext_pw (pw_regs List.Pairwise.nil) hpw fun r => ?_)
    rw [hmem, hym, hz, mem_rawR]
theorem pu87 {i : Inst} : Pu Tryd.prog 87 [Enc.tv i] (Eq (lst false (usesI i))) := by
  refine pu_fn fn87 (by rfl) (by rfl) (by rfl) fun X hX hTb => ?_
  refine wct_region_seq (by simp) ?_
  refine wot_o rfl (opt_box_fz (by rfl) (by rfl) (by trivial)) (by rfl) (by rfl) (by rfl) ?_
  refine wot_o rfl (opt_assign_c (by rfl)) (by rfl) (by rfl) (by rfl) ?_
  refine wot_nil ?_
  refine wct_region_seq (by simp) ?_
  refine wot_o rfl (by exact opt_fieldAddr_fp (by rfl) (by rfl)) (by rfl) (by rfl) (by rfl) ?_
  refine wot_o (x := Enc.tv i.a) rfl (opt_as (by exact opt_load_fp_a (by rfl) (by rfl) (by rfl)) (by rfl)) (by rfl) (by rfl) (by rfl) ?_
  refine wot_o rfl (by exact opt_fieldAddr_fp (by rfl) (by rfl)) (by rfl) (by rfl) (by rfl) ?_
  refine wot_o (x := Enc.tv i.b) rfl (opt_as (by exact opt_load_fp_a (by rfl) (by rfl) (by rfl)) (by rfl)) (by rfl) (by rfl) (by rfl) ?_
  refine wot_o rfl (by exact opt_fieldAddr_fp (by rfl) (by rfl)) (by rfl) (by rfl) (by rfl) ?_
  refine wot_o (x := Enc.tv i.c) rfl (opt_as (by exact opt_load_fp_a (by rfl) (by rfl) (by rfl)) (by rfl)) (by rfl) (by rfl) (by rfl) ?_
  refine wot_o rfl (opt_lit_l ([i.a, i.b, i.c]) (by rfl) (by rfl) (by rfl) (by rfl) (by rfl) (by rfl) (by rfl) (by rfl) (by rfl) (by rfl)) (by rfl) (by rfl) (by rfl) ?_
  refine wot_c hTb rfl (call_bin (by rfl) (by rfl)) (by refine Drs.cons (by exact Dr.cl (by exact lst_cl _)) ?_; exact Drs.nil) (pu102 (by simp)) (by exact lst_cl _) (by rfl) (by rfl) (by rfl) ?_
  refine wot_o rfl (opt_assign (by rfl) (by rfl)) (by rfl) (by rfl) (by rfl) ?_
  refine wot_nil ?_
  (refine wct_ret ?_)
  refine fin_1c (by simp) rfl (by rfl) (by exact lst_cl _) ?_
  rfl
theorem pu79 {i : Term} : Pu Tryd.prog 79 [Enc.tv i] (Eq (lst false (usesT i))) := by
  refine pu_fn fn79 (by rfl) (by rfl) (by rfl) fun X hX hTb => ?_
  refine wct_region_seq (by simp) ?_
  refine wot_o rfl (opt_box_fz (by rfl) (by rfl) (by trivial)) (by rfl) (by rfl) (by rfl) ?_
  refine wot_o rfl (opt_assign_c (by rfl)) (by rfl) (by rfl) (by rfl) ?_
  refine wot_nil ?_
  refine wct_region_seq (by simp) ?_
  refine wot_o rfl (by exact opt_fieldAddr_fp (by rfl) (by rfl)) (by rfl) (by rfl) (by rfl) ?_
  refine wot_o (x := Enc.tv i.a) rfl (opt_as (by exact opt_load_fp_a (by rfl) (by rfl) (by rfl)) (by rfl)) (by rfl) (by rfl) (by rfl) ?_
  refine wot_o rfl (by exact opt_fieldAddr_fp (by rfl) (by rfl)) (by rfl) (by rfl) (by rfl) ?_
  refine wot_o (x := Enc.tv i.b) rfl (opt_as (by exact opt_load_fp_a (by rfl) (by rfl) (by rfl)) (by rfl)) (by rfl) (by rfl) (by rfl) ?_
  refine wot_o rfl (opt_lit_l ([i.a, i.b]) (by rfl) (by rfl) (by rfl) (by rfl) (by rfl) (by rfl) (by rfl) (by rfl) (by rfl) (by rfl)) (by rfl) (by rfl) (by rfl) ?_
  refine wot_c hTb rfl (call_bin (by rfl) (by rfl)) (by refine Drs.cons (by exact Dr.cl (by exact lst_cl _)) ?_; exact Drs.nil) (pu102 (by simp)) (by exact lst_cl _) (by rfl) (by rfl) (by rfl) ?_
  refine wot_o rfl (opt_assign (by rfl) (by rfl)) (by rfl) (by rfl) (by rfl) ?_
  refine wot_nil ?_
  (refine wct_ret ?_)
  refine fin_1c (by simp) rfl (by rfl) (by exact lst_cl _) ?_
  rfl
end Go.Ab
