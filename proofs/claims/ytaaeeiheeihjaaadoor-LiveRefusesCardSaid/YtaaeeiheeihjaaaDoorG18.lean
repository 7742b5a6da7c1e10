/- The road to a card of this seat: G18. Each theorem holds for every input that its own premises speak of. -/
import Derived.Test.YtaaeeiheeihjaaaDoorG17
set_option linter.all false
namespace Go.Ab
open Go.Proofs
theorem pu52 {c : Code} {t : Bool} {ls : List (List Int)} (hf : Fit c) (hl : ls.length ≤ 2 ^ 20) : Pu Tryd.prog 52 [Enc.tv c, lst t ls] (fun r => r = .tup [lst false (ls.map ofB), tb (decide (ls.length = c.b.length))] ∧ (∀ l ∈ ls, LiOk c.regs l) ∨ r = .tup [.v (.slice none 0 0), tb false] ∧ ¬ ∀ l ∈ ls, LiOk c.regs l) := by
  have hrg := hf.rg
  refine pu_fn fn52 (by rfl) (by rfl) (by rfl) fun X hX hTb => ?_
  refine wct_region_seq (by simp) ?_
  refine wot_o rfl (opt_box_fz (by rfl) (by rfl) (by trivial)) (by rfl) (by rfl) (by rfl) ?_
  refine wot_o rfl (opt_assign_c (by rfl)) (by rfl) (by rfl) (by rfl) ?_
  refine wot_o rfl (opt_assign_c (by rfl)) (by rfl) (by rfl) (by rfl) ?_
  refine wot_nil ?_
  refine wct_region_seq (by simp) ?_
  refine wot_o rfl (opt_assign_c (by rfl)) (by rfl) (by rfl) (by rfl) ?_
  refine wot_nil ?_
  (refine wct_assoc ?_)
  refine wct_ghost (g_nil (d := 6) 4 93 (by rfl)) ?_
  refine wct_region_seq (by simp) ?_
  refine wot_o rfl (opt_move (by rfl) (by rfl)) (by rfl) (by rfl) (by rfl) ?_
  refine wot_o rfl (by exact opt_len_fz (by rfl) (by rfl) (by rfl)) (by rfl) (by rfl) (by rfl) ?_
  refine wot_o rfl (opt_move_c (by rfl)) (by rfl) (by rfl) (by rfl) ?_
  refine wot_nil ?_
  refine wct_loop3 (fun (k : Nat) (g : Nat) (ss : List BS) => k ≤ ls.length ∧ ss = (ls.take k).map ofB ∧ ss.length = k ∧ ∀ l ∈ ls.take k, LiOk c.regs l) (fun (k : Nat) (g : Nat) (ss : List BS) => [(1, lst t ls), (2, .fp false (cls c) 0), (6, ownl 0 g ss), (12, lst t ls), (13, ti (ls.length : Int)), (14, ti (k : Int))]) (fun (k : Nat) (g : Nat) (ss : List BS) => [rl g 93 ss]) (fun (k : Nat) (g : Nat) (ss : List BS) => ls.length - k) 0 0 [] (by exact ⟨rfl, rfl, rfl, rfl, rfl, rfl, trivial⟩) (by rfl) ?_ ?_
  · exact ⟨by omega, rfl, rfl, by simp⟩
  rintro k g ss ⟨hk, hs, hsl, hok⟩
  refine wct_region_seq (by simp) ?_
  refine wot_o rfl (opt_cmp (by rfl) (by rfl) (by rfl) (by rfl) (by rfl)) (by rfl) (by rfl) (by rfl) ?_
  refine wot_nil ?_
  refine wct_if_seq (by rfl) (by rfl) (fun c1 => ?_) (fun c1 => ?_)
  · (refine wct_skip_seq ?_; refine wct_block_sq ?_)
    try simp only [Int.toNat_natCast] at c1
    refine wct_region_seq (by simp) ?_
    refine wot_o rfl (by exact opt_index_lstN (by rfl) (by rfl) (by rfl) (by rfl) (by omega) (by rfl)) (by rfl) (by rfl) (by rfl) ?_
    refine wot_o rfl (by exact opt_load_fp_1 (by rfl) (by rfl) (by rfl)) (by rfl) (by rfl) (by rfl) ?_
    refine wot_o rfl (opt_assign (by rfl) (by rfl)) (by rfl) (by rfl) (by rfl) ?_
    refine wot_nil ?_
    refine wct_region_seq (by simp) ?_
    refine wot_o rfl (opt_assign_c (by rfl)) (by rfl) (by rfl) (by rfl) ?_
    refine wot_nil ?_
    (refine wct_assoc ?_)
    refine wct_region_seq (by simp) ?_
    refine wot_o rfl (opt_move (by rfl) (by rfl)) (by rfl) (by rfl) (by rfl) ?_
    refine wot_o rfl (by exact opt_len_fz (by rfl) (by rfl) (by rfl)) (by rfl) (by rfl) (by rfl) ?_
    refine wot_o rfl (opt_move_c (by rfl)) (by rfl) (by rfl) (by rfl) ?_
    refine wot_nil ?_
    refine wct_loop2 (fun (i : Nat) (m : Int) => i ≤ (at' ls k).length ∧ LiOk c.regs ((at' ls k).take i) ∧ (i = 0 ∧ m = -1 ∨ 0 < i ∧ m = at' (at' ls k) (i - 1))) (fun (i : Nat) (m : Int) => [(1, lst t ls), (2, .fp false (cls c) 0), (6, ownl 0 g ss), (8, lst false (at' ls k)), (9, ti m), (12, lst t ls), (13, ti (ls.length : Int)), (14, ti (k : Int)), (18, lst false (at' ls k)), (19, ti ((at' ls k).length : Int)), (20, ti (i : Int))]) (fun (i : Nat) (m : Int) => [rl g 93 ss]) (fun (i : Nat) (m : Int) => (at' ls k).length - i) 0 (-1) (by exact ⟨rfl, rfl, rfl, rfl, rfl, rfl, rfl, rfl, rfl, rfl, rfl, trivial⟩) (by rfl) ?_ ?_
    · exact ⟨by omega, by simp [LiOk], .inl ⟨rfl, rfl⟩⟩
    rintro i m ⟨hi, hli, hm⟩
    refine wct_region_seq (by simp) ?_
    refine wot_o rfl (opt_cmp (by rfl) (by rfl) (by rfl) (by rfl) (by rfl)) (by rfl) (by rfl) (by rfl) ?_
    refine wot_nil ?_
    refine wct_if_seq (by rfl) (by rfl) (fun c2 => ?_) (fun c2 => ?_)
    · (refine wct_skip_seq ?_; refine wct_block_sq ?_)
      try simp only [Int.toNat_natCast] at c2
      refine wct_fact (f_len (d := 18) rfl) fun hil => ?_
      refine wct_region_seq (by simp) ?_
      refine wot_o rfl (by exact opt_index_lstN (by rfl) (by rfl) (by rfl) (by rfl) (by omega) (by rfl)) (by rfl) (by rfl) (by rfl) ?_
      refine wot_o rfl (by exact opt_load_fp_1 (by rfl) (by rfl) (by rfl)) (by rfl) (by rfl) (by rfl) ?_
      refine wot_o rfl (opt_assign (by rfl) (by rfl)) (by rfl) (by rfl) (by rfl) ?_
      refine wot_nil ?_
      (refine wct_assoc ?_)
      refine wct_region_seq (by simp) ?_
      refine wot_o rfl (opt_move (by rfl) (by rfl)) (by rfl) (by rfl) (by rfl) ?_
      refine wot_o rfl (opt_move (by rfl) (by rfl)) (by rfl) (by rfl) (by rfl) ?_
      refine wot_o rfl (opt_cmp (by rfl) (by rfl) (by rfl) (by rfl) (by rfl)) (by rfl) (by rfl) (by rfl) ?_
      refine wot_o rfl (opt_move (by rfl) (by rfl)) (by rfl) (by rfl) (by rfl) ?_
      refine wot_split (d := 27) (by rfl) (fun g4 => ?_) (fun g4 => ?_)
      · refine wot_sg (by rfl) (by rfl) (by rfl) (by rfl) (by rfl) (by rfl) ?_
        refine wot_sg (by rfl) (by rfl) (by rfl) (by rfl) (by rfl) (by rfl) ?_
        refine wot_sg (by rfl) (by rfl) (by rfl) (by rfl) (by rfl) (by rfl) ?_
        refine wot_sg (by rfl) (by rfl) (by rfl) (by rfl) (by rfl) (by rfl) ?_
        refine wot_o rfl (by exact opt_pick_t (by rfl) (by rfl) (by rfl) (by rfl) (by rfl) (by rfl) (by rfl)) (by rfl) (by rfl) (by rfl) ?_
        refine wot_nil ?_
        refine wct_tt_seq (by rfl) (by rfl) ?_
        (refine wct_assoc ?_)
        refine wct_region_seq (by simp) ?_
        refine wot_o rfl (opt_assign_c (by rfl)) (by rfl) (by rfl) (by rfl) ?_
        refine wot_o rfl (opt_assign_c (by rfl)) (by rfl) (by rfl) (by rfl) ?_
        refine wot_nil ?_
        (refine wct_ret_seq ?_; refine qbt_ret ?_; refine qst_ret ?_; refine qst_ret ?_; refine qbt_ret ?_; refine qst_ret ?_; refine qbt_ret ?_; refine qst_ret ?_; refine qst_ret ?_; refine qbt_ret ?_; refine qst_ret ?_)
        refine fin_2 (by simp) rfl (by rfl) (by rfl) (by rfl) (by rfl) (Dr.tup (cs' := [.v (.slice none 0 0) , tb false]) (by refine Drs.cons (by exact Dr.cl (by exact Cl.v _)) ?_; refine Drs.cons (by exact Dr.cl (by exact Cl.v _)) ?_; exact Drs.nil)) ?_
        right
        refine ⟨rfl, fun h => ?_⟩
        have h := h _ (at_mem' (xs := ls) (k := k) (by omega))
        rcases hm with ⟨h1, h2⟩ | ⟨h1, h2⟩
        · exact LiOk.bad (regs := c.regs) (xs := at' ls k) (k := i) (by omega) (.inl (by omega)) h
        · exact LiOk.bad (regs := c.regs) (xs := at' ls k) (k := i) (by omega) (.inr ⟨by omega, by omega⟩) h
      · refine wot_og rfl (opt_move (by rfl) (by rfl)) (by rfl) (by rfl) (by rfl) (by rfl) (by rfl) (by rfl) ?_
        refine wot_og rfl (by exact opt_fieldAddr_fp (by rfl) (by rfl)) (by rfl) (by rfl) (by rfl) (by rfl) (by rfl) (by rfl) ?_
        refine wot_og rfl (by exact opt_load_fp_1 (by rfl) (by rfl) (by rfl)) (by rfl) (by rfl) (by rfl) (by rfl) (by rfl) (by rfl) ?_
        refine wot_og rfl (opt_cmp (by rfl) (by rfl) (by rfl) (by rfl) (by rfl)) (by rfl) (by rfl) (by rfl) (by rfl) (by rfl) (by rfl) ?_
        refine wot_o rfl (by exact opt_pick_f (by rfl) (by rfl) (by rfl) (by rfl) (by rfl) (by rfl) (by rfl)) (by rfl) (by rfl) (by rfl) ?_
        refine wot_nil ?_
        refine wct_if_seq (by rfl) (by rfl) (fun c3 => ?_) (fun c3 => ?_)
        · (refine wct_assoc ?_)
          try simp only [Int.toNat_natCast] at c3
          refine wct_region_seq (by simp) ?_
          refine wot_o rfl (opt_assign_c (by rfl)) (by rfl) (by rfl) (by rfl) ?_
          refine wot_o rfl (opt_assign_c (by rfl)) (by rfl) (by rfl) (by rfl) ?_
          refine wot_nil ?_
          (refine wct_ret_seq ?_; refine qbt_ret ?_; refine qst_ret ?_; refine qst_ret ?_; refine qbt_ret ?_; refine qst_ret ?_; refine qbt_ret ?_; refine qst_ret ?_; refine qst_ret ?_; refine qbt_ret ?_; refine qst_ret ?_)
          refine fin_2 (by simp) rfl (by rfl) (by rfl) (by rfl) (by rfl) (Dr.tup (cs' := [.v (.slice none 0 0) , tb false]) (by refine Drs.cons (by exact Dr.cl (by exact Cl.v _)) ?_; refine Drs.cons (by exact Dr.cl (by exact Cl.v _)) ?_; exact Drs.nil)) ?_
          right
          refine ⟨rfl, fun h => ?_⟩
          have h := h _ (at_mem' (xs := ls) (k := k) (by omega))
          rcases hm with ⟨h1, h2⟩ | ⟨h1, h2⟩
          · exact LiOk.bad (regs := c.regs) (xs := at' ls k) (k := i) (by omega) (.inl (by omega)) h
          · exact LiOk.bad (regs := c.regs) (xs := at' ls k) (k := i) (by omega) (.inl (by omega)) h
        · (refine wct_skip_seq ?_)
          try simp only [Int.toNat_natCast] at c3
          refine wct_region (by simp) ?_
          refine wot_o rfl (opt_move (by rfl) (by rfl)) (by rfl) (by rfl) (by rfl) ?_
          refine wot_o rfl (opt_assign (by rfl) (by rfl)) (by rfl) (by rfl) (by rfl) ?_
          refine wot_nil ?_
          (refine qbt_normal ?_; refine qst_wct ?_)
          refine wct_region (by simp) ?_
          refine wot_o rfl (opt_add (by rfl) (by rfl) (by rfl) (by rfl) (by constructor <;> omega)) (by rfl) (by rfl) (by rfl) ?_
          refine wot_o rfl (opt_move (by rfl) (by rfl)) (by rfl) (by rfl) (by rfl) ?_
          refine wot_nil ?_
          (refine qst_loop ?_)
          refine rnd (i + 1, at' (at' ls k) i) (by (try simp only); omega) ?_ (by exact ⟨rfl, rfl, rfl, rfl, rfl, rfl, rfl, rfl, rfl, rfl, rfl, trivial⟩) (by rfl)
          try dsimp only
          refine ⟨by omega, ?_, .inr ⟨by omega, rfl⟩⟩
          rcases hm with ⟨h1, h2⟩ | ⟨h1, h2⟩
          · exact hli.snoc (by omega) (by omega) (.inl (by omega))
          · have := hli.1 _ (mem_take_at.2 ⟨i - 1, by omega, by omega, rfl⟩)
            exact hli.snoc (by omega) (by omega) (.inr (by omega))
    · (refine wct_exit_seq ?_; refine qst_exit ?_; refine qbt_same ?_; refine qst_wct ?_)
      try simp only [Int.toNat_natCast] at c2
      have hlk : LiOk c.regs (at' ls k) := by rw [take_all hi c2] at hli; exact hli
      have hr : ∀ r ∈ at' ls k, r < 256 := fun r hr => by have := hlk.1 r hr; omega
      refine wct_region (by simp) ?_
      refine wot_o rfl (opt_move (by rfl) (by rfl)) (by rfl) (by rfl) (by rfl) ?_
      refine wot_o rfl (opt_move (by rfl) (by rfl)) (by rfl) (by rfl) (by rfl) ?_
      refine wot_c hTb rfl (call_bin (by rfl) (by rfl)) (by refine Drs.cons (by exact Dr.cl (by exact lst_cl _)) ?_; exact Drs.nil) (pu55 (by assumption)) (by exact Enc.cl _) (by rfl) (by rfl) (by rfl) ?_
      refine wot_o rfl (opt_lit_l ([ofB (at' ls k)]) (by rfl) (by rfl) (by rfl) (by rfl) (by rfl) (by rfl) (by rfl) (by rfl) (by rfl) fill_bs) (by rfl) (by rfl) (by rfl) ?_
      refine wot_of rfl (by exact opt_append_l (by rfl) (by rfl) (by rfl) (by rfl) src_lst (by rfl) (by rfl) (by rfl) (by (simp only [List.length_append, List.length_cons, List.length_nil, List.length_take, List.length_drop]; omega)) (by rfl)) (EffOk.pure hX) (by rfl) (by rfl) (by rfl) ?_
      refine wot_o rfl (opt_assign (by rfl) (by rfl)) (by rfl) (by rfl) (by rfl) ?_
      refine wot_nil ?_
      (refine qbt_normal ?_; refine qst_wct ?_)
      refine wct_region (by simp) ?_
      refine wot_o rfl (opt_add (by rfl) (by rfl) (by rfl) (by rfl) (by constructor <;> omega)) (by rfl) (by rfl) (by rfl) ?_
      refine wot_o rfl (opt_move (by rfl) (by rfl)) (by rfl) (by rfl) (by rfl) ?_
      refine wot_nil ?_
      (refine qst_loop ?_)
      refine rnd (k + 1, g + 1, ss ++ [ofB (at' ls k)]) (by (try simp only); omega) ?_ (by exact ⟨rfl, rfl, rfl, rfl, rfl, rfl, trivial⟩) (by rfl)
      try dsimp only
      refine ⟨by omega, by rw [take_succ (by omega), List.map_append, hs]; rfl, by simp [hsl], fun l hl => ?_⟩
      rw [take_succ (by omega), List.mem_append, List.mem_singleton] at hl
      rcases hl with hl | rfl
      · exact hok l hl
      · exact hlk
  · (refine wct_exit_seq ?_; refine qst_exit ?_; refine qbt_same ?_; refine qst_wct ?_)
    try simp only [Int.toNat_natCast] at c1
    refine wct_draw_seq (by kernel_rfl) (u := []) (by kernel_rfl) ?_
    refine wtt_o rfl (opt_move (by rfl) (by rfl)) (by rfl) (by rfl) (by rfl) ?_
    refine wtt_o rfl (opt_move (by rfl) (by rfl)) (by rfl) (by rfl) (by rfl) ?_
    refine wtt_o rfl (by exact opt_len_fz (by rfl) (by rfl) (by rfl)) (by rfl) (by rfl) (by rfl) ?_
    refine wtt_o rfl (by exact opt_fieldAddr_fp (by rfl) (by rfl)) (by rfl) (by rfl) (by rfl) ?_
    refine wtt_o rfl (by exact opt_load_fp_1 (by rfl) (by rfl) (by rfl)) (by rfl) (by rfl) (by rfl) ?_
    refine wtt_o rfl (by exact opt_len_fz (by rfl) (by rfl) (by rfl)) (by rfl) (by rfl) (by rfl) ?_
    refine wtt_o rfl (opt_cmp (by rfl) (by rfl) (by rfl) (by rfl) (by rfl)) (by rfl) (by rfl) (by rfl) ?_
    refine wtt_o rfl (opt_assign (by rfl) (by rfl)) (by rfl) (by rfl) (by rfl) ?_
    refine wtt_o rfl (opt_assign (by rfl) (by rfl)) (by rfl) (by rfl) (by rfl) ?_
    refine wtt_nil ?_
    refine ⟨trivial, ?_⟩
    (refine wct_ret ?_)
    refine fin_2 (by simp) rfl (by rfl) (by rfl) (by rfl) (by rfl) (Dr.tup (cs' := [lst false ss , tb (decide ((ls.length : Int) = (c.b.length : Int)))]) (by refine Drs.cons (by exact dr_ow (by rfl) (by rfl) (by rfl) (by omega) (by exact Nat.le_refl _)) ?_; refine Drs.cons (by exact Dr.cl (by exact Cl.v _)) ?_; exact Drs.nil)) ?_
    left
    rw [take_all hk c1] at hs hok
    refine ⟨?_, hok⟩
    rw [hs, show decide ((ls.length : Int) = (c.b.length : Int)) = decide (ls.length = c.b.length) from decide_eq_decide.2 (by omega)]
end Go.Ab
