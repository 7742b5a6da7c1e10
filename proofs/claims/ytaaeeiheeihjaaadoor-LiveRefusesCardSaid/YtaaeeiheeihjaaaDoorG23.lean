/- The road to a card of this seat: G23. Each theorem holds for every input that its own premises speak of. -/
import Derived.Test.YtaaeeiheeihjaaaDoorG22
set_option linter.all false
namespace Go.Ab
open Go.Proofs
def bit16 (m : Int) (j : Nat) : Prop := IntKind.u16.wrap (BitVec.ofInt 16 (shr16 m j) &&& BitVec.ofInt 16 1).toNat = 1
instance (m : Int) (j : Nat) : Decidable (bit16 m j) := by unfold bit16; infer_instance
def bits16 (m : Int) (k : Nat) : List Int := ((List.range k).filter fun j => decide (bit16 m j)).map fun (j : Nat) => (j : Int)
theorem bits16_succ {m : Int} {k : Nat} : bits16 m (k + 1) = if bit16 m k then bits16 m k ++ [(k : Int)] else bits16 m k := by
  unfold bits16
  rw [List.range_succ, List.filter_append]
  split
  · rename_i h; simp [h]
  · rename_i h; simp [h]
theorem bits16_mem {m r : Int} {k : Nat} (h : r ∈ bits16 m k) : 0 ≤ r ∧ r < k := by
  obtain ⟨j, hj, rfl⟩ := List.mem_map.1 h
  have := List.mem_range.1 (List.mem_filter.1 hj).1
  exact ⟨by omega, by omega⟩
theorem bits16_len {m : Int} (k : Nat) : (bits16 m k).length ≤ k := by
  unfold bits16
  rw [List.length_map]
  exact Nat.le_trans (List.length_filter_le _ _) (by simp)
theorem union_snoc {l ks : List Int} {k : Int} : unionI (unionI l ks) [k] = unionI l (ks ++ [k]) := by simp [unionI]
def moreL (ls : List (List Int)) (ks : List Int) (k : Nat) (js : List Int) : List (List Int) := (List.range ls.length).map fun b => if b < k then unionI (at' ls b) ks else if b = k then unionI (at' ls b) js else at' ls b
theorem moreL_len {ls : List (List Int)} {ks js : List Int} {k : Nat} : (moreL ls ks k js).length = ls.length := by simp [moreL]
theorem moreL_at {ls : List (List Int)} {ks js : List Int} {k b : Nat} (h : b < ls.length) : at' (moreL ls ks k js) b = if b < k then unionI (at' ls b) ks else if b = k then unionI (at' ls b) js else at' ls b := by simp [moreL, at', h]
theorem moreL_start {ls : List (List Int)} {ks : List Int} : moreL ls ks 0 [] = ls := ext_at moreL_len fun b hb => by
  rw [moreL_len] at hb
  rw [moreL_at hb, if_neg (by omega)]
  split
  · rfl
  · rfl
theorem moreL_next {ls : List (List Int)} {ks : List Int} {k : Nat} : moreL ls ks k ks = moreL ls ks (k + 1) [] := ext_at (by rw [moreL_len, moreL_len]) fun b hb => by
  rw [moreL_len] at hb
  rw [moreL_at hb, moreL_at hb]
  rcases Nat.lt_trichotomy b k with h | h | h
  · rw [if_pos h, if_pos (by omega)]
  · subst h; rw [if_neg (by omega), if_pos rfl, if_pos (by omega)]
  · rw [if_neg (by omega), if_neg (by omega), if_neg (by omega)]
    split
    · rfl
    · rfl
theorem moreL_set {ls : List (List Int)} {ks js : List Int} {k : Nat} {j : Int} (h : k < ls.length) : (moreL ls ks k js).set k (unionI (at' (moreL ls ks k js) k) [j]) = moreL ls ks k (js ++ [j]) := ext_at (by rw [List.length_set, moreL_len, moreL_len]) fun b hb => by
  rw [List.length_set, moreL_len] at hb
  rw [at_set (by rw [moreL_len]; exact h)]
  by_cases hbk : b = k
  · subst hbk; rw [if_pos rfl, moreL_at h, moreL_at h, if_neg (Nat.lt_irrefl _), if_pos rfl, if_neg (Nat.lt_irrefl _), if_pos rfl, union_snoc]
  · rw [if_neg hbk, moreL_at hb, moreL_at hb]
    split
    · rfl
    · simp only [if_neg hbk]
def moreK (c : Code) : Nat := min c.regs.toNat 16
structure MoreI (c : Code) (m : Int) (x : Live) : Prop where
  ex : ∃ y, Least c y ∧ x.in_.length = c.b.length ∧ x.out.length = c.b.length ∧ ∀ b, b < c.b.length → at' x.in_ b = unionI (at' y.in_ b) (bits16 m (moreK c)) ∧ at' x.out b = unionI (at' y.out b) (bits16 m (moreK c))
set_option maxRecDepth 100000 in
theorem conv100 (n : Int) : pureV Tryd.prog (convert 3 100 (.int .i64 n)) = some (.int .u64 (IntKind.u64.wrap n)) := by rfl
theorem pu16 {c : Code} {m : Int} (hf : Fit c) : Pu Tryd.prog 16 [Enc.tv c, .v (.int .u16 m)] (fun r => ∃ x, r = Enc.tv x ∧ MoreI c m x) := by
  have hnb := hf.nb
  have hrg := hf.rg
  refine pu_fn fn16 (by rfl) (by rfl) (by rfl) fun X hX hTb => ?_
  refine wct_region_seq (by simp) ?_
  refine wot_o rfl (opt_box_fz (by rfl) (by rfl) (by trivial)) (by rfl) (by rfl) (by rfl) ?_
  refine wot_o rfl (opt_alloc (by rfl)) (by rfl) (by rfl) (by rfl) ?_
  refine wot_nil ?_
  refine wct_region_seq (by simp) ?_
  refine wot_o rfl (by exact opt_load_fp_row (by rfl) (by rfl) (by rfl)) (by rfl) (by rfl) (by rfl) ?_
  refine wot_ci hTb rfl (call_bin (by rfl) (by rfl)) (im14 hf) (fun _ _ _ h => h.2) (EffOk.pure hX) (by rfl) (by rfl) (by rfl) ?_
  rintro r Th' ⟨⟨y, rfl, ⟨B, C, rfl⟩, hL⟩, _⟩
  refine wot_o rfl (opt_alloc (by rfl)) (by rfl) (by rfl) (by rfl) ?_
  refine wot_of0 rfl (by exact opt_store_row (by rfl) (by rfl) (by rfl) (by rfl) (by rfl) (by trivial) (by rfl) (by rfl) (by rfl)) (EffOk.pure hX) (by rfl) (by rfl) ?_
  refine wot_nil ?_
  (refine wct_assoc ?_)
  rw [show rl c.b.length 47 y.in_ = rl c.b.length 47 (moreL y.in_ (bits16 m (moreK c)) 0 []) by rw [moreL_start], show rl c.b.length 47 y.out = rl c.b.length 47 (moreL y.out (bits16 m (moreK c)) 0 []) by rw [moreL_start]]
  have hli := hL.li
  have hlo := hL.lo
  have hkm : moreK c = min c.regs.toNat 16 := rfl
  refine wct_region_seq (by simp) ?_
  refine wot_o rfl (opt_assign_c (by rfl)) (by rfl) (by rfl) (by rfl) ?_
  refine wot_nil ?_
  refine wct_loop_seq (fun (k : Nat) => k ≤ c.b.length) (fun (k : Nat) => [(1, .v (.int .u16 m)), (2, .fp false (cls c) 0), (4, .pt 0 0 0), (5, .pt 5 0 0), (6, ti (k : Int))]) (fun (k : Nat) => [⟨0, some (38, [.v (.slice none 0 0), .v (.slice none 0 0)])⟩, B, C, rl c.b.length 47 (moreL y.in_ (bits16 m (moreK c)) k []), rl c.b.length 47 (moreL y.out (bits16 m (moreK c)) k []), ⟨0, some (38, [.own 3 c.b.length 1 0 c.b.length c.b.length, .own 4 c.b.length 1 0 c.b.length c.b.length])⟩]) (fun (k : Nat) => c.b.length - k) 0 (by exact ⟨rfl, rfl, rfl, rfl, rfl, trivial⟩) (by rfl) ?_ ?_
  · exact Nat.zero_le _
  rintro k hk
  (refine wct_assoc ?_)
  refine wct_region_seq (by simp) ?_
  refine wot_o rfl (opt_move (by rfl) (by rfl)) (by rfl) (by rfl) (by rfl) ?_
  refine wot_o rfl (by exact opt_fieldAddr_fp (by rfl) (by rfl)) (by rfl) (by rfl) (by rfl) ?_
  refine wot_o rfl (by exact opt_load_fp_1 (by rfl) (by rfl) (by rfl)) (by rfl) (by rfl) (by rfl) ?_
  refine wot_o rfl (by exact opt_len_fz (by rfl) (by rfl) (by rfl)) (by rfl) (by rfl) (by rfl) ?_
  refine wot_o rfl (opt_cmp (by rfl) (by rfl) (by rfl) (by rfl) (by rfl)) (by rfl) (by rfl) (by rfl) ?_
  refine wot_nil ?_
  refine wct_if_seq (by rfl) (by rfl) (fun c1 => ?_) (fun c1 => ?_)
  · (refine wct_skip_seq ?_; refine wct_block_sq ?_)
    try simp only [Int.toNat_natCast] at c1
    refine wct_region_seq (by simp) ?_
    refine wot_o rfl (opt_assign_c (by rfl)) (by rfl) (by rfl) (by rfl) ?_
    refine wot_nil ?_
    refine wct_loop1 (fun (j : Nat) => j ≤ moreK c) (fun (j : Nat) => [(1, .v (.int .u16 m)), (2, .fp false (cls c) 0), (4, .pt 0 0 0), (5, .pt 5 0 0), (6, ti (k : Int)), (7, ti (j : Int))]) (fun (j : Nat) => [⟨0, some (38, [.v (.slice none 0 0), .v (.slice none 0 0)])⟩, B, C, rl c.b.length 47 (moreL y.in_ (bits16 m (moreK c)) k (bits16 m j)), rl c.b.length 47 (moreL y.out (bits16 m (moreK c)) k (bits16 m j)), ⟨0, some (38, [.own 3 c.b.length 1 0 c.b.length c.b.length, .own 4 c.b.length 1 0 c.b.length c.b.length])⟩]) (fun (j : Nat) => moreK c - j) 0 (by exact ⟨rfl, rfl, rfl, rfl, rfl, rfl, trivial⟩) (by rfl) ?_ ?_
    · exact Nat.zero_le _
    rintro j hj
    (refine wct_assoc ?_)
    have hik : (moreL y.in_ (bits16 m (moreK c)) k (bits16 m j)).length = c.b.length := by rw [moreL_len]; exact hli
    have hok : (moreL y.out (bits16 m (moreK c)) k (bits16 m j)).length = c.b.length := by rw [moreL_len]; exact hlo
    have hbl := bits16_len (m := m) j
    refine wct_region_seq (by simp) ?_
    refine wot_o rfl (opt_move (by rfl) (by rfl)) (by rfl) (by rfl) (by rfl) ?_
    refine wot_o rfl (by exact opt_fieldAddr_fp (by rfl) (by rfl)) (by rfl) (by rfl) (by rfl) ?_
    refine wot_o rfl (by exact opt_load_fp_1 (by rfl) (by rfl) (by rfl)) (by rfl) (by rfl) (by rfl) ?_
    refine wot_o rfl (opt_cmp (by rfl) (by rfl) (by rfl) (by rfl) (by rfl)) (by rfl) (by rfl) (by rfl) ?_
    refine wot_o rfl (opt_move (by rfl) (by rfl)) (by rfl) (by rfl) (by rfl) ?_
    refine wot_split (d := 21) (by rfl) (fun g5 => ?_) (fun g5 => ?_)
    · refine wot_og rfl (opt_move (by rfl) (by rfl)) (by rfl) (by rfl) (by rfl) (by rfl) (by rfl) (by rfl) ?_
      refine wot_og rfl (opt_cmp (by rfl) (by rfl) (by rfl) (by rfl) (by rfl)) (by rfl) (by rfl) (by rfl) (by rfl) (by rfl) (by rfl) ?_
      refine wot_o rfl (by exact opt_pick_t (by rfl) (by rfl) (by rfl) (by rfl) (by rfl) (by rfl) (by rfl)) (by rfl) (by rfl) (by rfl) ?_
      refine wot_nil ?_
      refine wct_if_seq (by rfl) (by rfl) (fun c2 => ?_) (fun c2 => ?_)
      · (refine wct_skip_seq ?_; refine wct_block_sq ?_)
        try simp only [Int.toNat_natCast] at c2
        refine wct_region_seq (by simp) ?_
        refine wot_o rfl (opt_move (by rfl) (by rfl)) (by rfl) (by rfl) (by rfl) ?_
        refine wot_o rfl (opt_move (by rfl) (by rfl)) (by rfl) (by rfl) (by rfl) ?_
        refine wot_o rfl (opt_conv (by rfl) (by rfl) (conv_u64 (conv100 _) (by omega)) (by rfl) (by rfl)) (by rfl) (by rfl) (by rfl) ?_
        refine wot_o rfl (opt_shr16 (by rfl) (by rfl) (by rfl) (by rfl)) (by rfl) (by rfl) (by rfl) ?_
        refine wot_o rfl (opt_ibin (by rfl) (by rfl) (by rfl) (by rfl) (by rfl) (by rfl)) (by rfl) (by rfl) (by rfl) ?_
        refine wot_o rfl (opt_cmp (by rfl) (by rfl) (by rfl) (by rfl) (by rfl)) (by rfl) (by rfl) (by rfl) ?_
        refine wot_nil ?_
        refine wct_if (by rfl) (by rfl) (fun c3 => ?_) (fun c3 => ?_)
        · (skip)
          try simp only [Int.toNat_natCast] at c3
          have hk1 : k < y.in_.length := by omega
          have hk2 : k < y.out.length := by omega
          have hl1 : (at' (moreL y.in_ (bits16 m (moreK c)) k (bits16 m j)) k).length ≤ 2 ^ 16 := by
              rw [moreL_at hk1, if_neg (by omega), if_pos rfl]
              have := unionI_len (bits16 m j) (at' y.in_ k)
              have := (hL.ok k (by omega)).1.len hrg.2
              omega
          have hl2 : (at' (moreL y.out (bits16 m (moreK c)) k (bits16 m j)) k).length ≤ 2 ^ 16 := by
              rw [moreL_at hk2, if_neg (by omega), if_pos rfl]
              have := unionI_len (bits16 m j) (at' y.out k)
              have := (hL.ok k (by omega)).2.len hrg.2
              omega
          refine wct_draw_seq (by kernel_rfl) (u := [(1, 10)]) (by kernel_rfl) ?_
          refine wtt_o rfl (by exact opt_fieldAddr_pt (by rfl) (by rfl) (by rfl) (by rfl)) (by rfl) (by rfl) (by rfl) ?_
          refine wtt_o rfl (by exact opt_load_pt_1 (by rfl) (by rfl) (by rfl) (by rfl)) (by rfl) (by rfl) (by rfl) ?_
          refine wtt_o rfl (opt_move (by rfl) (by rfl)) (by rfl) (by rfl) (by rfl) ?_
          refine wtt_o rfl (by exact opt_fieldAddr_pt (by rfl) (by rfl) (by rfl) (by rfl)) (by rfl) (by rfl) (by rfl) ?_
          refine wtt_o rfl (by exact opt_load_pt_1 (by rfl) (by rfl) (by rfl) (by rfl)) (by rfl) (by rfl) (by rfl) ?_
          refine wtt_o rfl (opt_move (by rfl) (by rfl)) (by rfl) (by rfl) (by rfl) ?_
          refine wtt_o rfl (by exact opt_index_lN (by rfl) (by rfl) (by rfl) (by rfl) (by rfl) (by omega)) (by rfl) (by rfl) (by rfl) ?_
          refine wtt_o rfl (by exact opt_load_l1 (by rfl) (by rfl) (by rfl) (by omega) (by rfl) (by rfl)) (by rfl) (by rfl) (by rfl) ?_
          refine wtt_o rfl (opt_move (by rfl) (by rfl)) (by rfl) (by rfl) (by rfl) ?_
          refine wtt_o rfl (opt_lit_l ([(j : Int)]) (by rfl) (by rfl) (by rfl) (by rfl) (by rfl) (by rfl) (by rfl) (by rfl) (by rfl) (by rfl)) (by rfl) (by rfl) (by rfl) ?_
          refine wtt_c hTb rfl (call_bin (by rfl) (by rfl)) (by refine Drs.cons (by exact Dr.cl (by exact lst_cl _)) ?_; refine Drs.cons (by exact Dr.cl (by exact lst_cl _)) ?_; exact Drs.nil) (pu51 (by omega) (by (simp only [List.length_append, List.length_cons, List.length_nil, List.length_take, List.length_drop, List.length_set, List.length_replicate]; omega))) (by exact lst_cl _) (by rfl) (by rfl) (by rfl) ?_
          refine wtt_o rfl (by exact opt_index_lN (by rfl) (by rfl) (by rfl) (by rfl) (by rfl) (by omega)) (by rfl) (by rfl) (by rfl) ?_
          refine wtt_of0 rfl (by exact opt_store_l (by rfl) (by rfl) (by rfl) (by rfl) (by rfl) (by trivial) (by rfl) (by omega) (by rfl) (by rfl)) (EffOk.pure hX) (by rfl) (by rfl) ?_
          refine wtt_nil ?_
          refine ⟨⟨(by exact chk_pt (t := 36) (by rfl) (by rfl) (by rfl) (by rfl) (by rfl) (by rfl) (by rfl) (by rfl) (by rfl)), trivial⟩, ?_⟩
          refine wct_draw (by kernel_rfl) (u := [(1, 10)]) (by kernel_rfl) ?_
          refine wtt_o rfl (by exact opt_fieldAddr_pt (by rfl) (by rfl) (by rfl) (by rfl)) (by rfl) (by rfl) (by rfl) ?_
          refine wtt_o rfl (by exact opt_load_pt_1 (by rfl) (by rfl) (by rfl) (by rfl)) (by rfl) (by rfl) (by rfl) ?_
          refine wtt_o rfl (opt_move (by rfl) (by rfl)) (by rfl) (by rfl) (by rfl) ?_
          refine wtt_o rfl (by exact opt_fieldAddr_pt (by rfl) (by rfl) (by rfl) (by rfl)) (by rfl) (by rfl) (by rfl) ?_
          refine wtt_o rfl (by exact opt_load_pt_1 (by rfl) (by rfl) (by rfl) (by rfl)) (by rfl) (by rfl) (by rfl) ?_
          refine wtt_o rfl (opt_move (by rfl) (by rfl)) (by rfl) (by rfl) (by rfl) ?_
          refine wtt_o rfl (by exact opt_index_lN (by rfl) (by rfl) (by rfl) (by rfl) (by rfl) (by omega)) (by rfl) (by rfl) (by rfl) ?_
          refine wtt_o rfl (by exact opt_load_l1 (by rfl) (by rfl) (by rfl) (by omega) (by rfl) (by rfl)) (by rfl) (by rfl) (by rfl) ?_
          refine wtt_o rfl (opt_move (by rfl) (by rfl)) (by rfl) (by rfl) (by rfl) ?_
          refine wtt_o rfl (opt_lit_l ([(j : Int)]) (by rfl) (by rfl) (by rfl) (by rfl) (by rfl) (by rfl) (by rfl) (by rfl) (by rfl) (by rfl)) (by rfl) (by rfl) (by rfl) ?_
          refine wtt_c hTb rfl (call_bin (by rfl) (by rfl)) (by refine Drs.cons (by exact Dr.cl (by exact lst_cl _)) ?_; refine Drs.cons (by exact Dr.cl (by exact lst_cl _)) ?_; exact Drs.nil) (pu51 (by omega) (by (simp only [List.length_append, List.length_cons, List.length_nil, List.length_take, List.length_drop, List.length_set, List.length_replicate]; omega))) (by exact lst_cl _) (by rfl) (by rfl) (by rfl) ?_
          refine wtt_o rfl (by exact opt_index_lN (by rfl) (by rfl) (by rfl) (by rfl) (by rfl) (by omega)) (by rfl) (by rfl) (by rfl) ?_
          refine wtt_of0 rfl (by exact opt_store_l (by rfl) (by rfl) (by rfl) (by rfl) (by rfl) (by trivial) (by rfl) (by omega) (by rfl) (by rfl)) (EffOk.pure hX) (by rfl) (by rfl) ?_
          refine wtt_nil ?_
          refine ⟨⟨(by exact chk_pt (t := 36) (by rfl) (by rfl) (by rfl) (by rfl) (by rfl) (by rfl) (by rfl) (by rfl) (by rfl)), trivial⟩, ?_⟩
          (refine qbt_normal ?_; refine qst_wct ?_)
          refine wct_region (by simp) ?_
          refine wot_o rfl (opt_move (by rfl) (by rfl)) (by rfl) (by rfl) (by rfl) ?_
          refine wot_o rfl (opt_add (by rfl) (by rfl) (by rfl) (by rfl) (by constructor <;> omega)) (by rfl) (by rfl) (by rfl) ?_
          refine wot_o rfl (opt_assign (by rfl) (by rfl)) (by rfl) (by rfl) (by rfl) ?_
          refine wot_nil ?_
          (refine qst_loop ?_)
          refine rnd (j + 1) (by (try simp only); omega) ?_ (by exact ⟨rfl, rfl, rfl, rfl, rfl, rfl, trivial⟩) (by rw [bits16_succ, if_pos (show bit16 m j from c3), ← moreL_set hk1, ← moreL_set hk2]; rfl)
          try dsimp only
          omega
        · (refine wct_skip ?_; refine qbt_normal ?_; refine qst_wct ?_)
          try simp only [Int.toNat_natCast] at c3
          refine wct_region (by simp) ?_
          refine wot_o rfl (opt_move (by rfl) (by rfl)) (by rfl) (by rfl) (by rfl) ?_
          refine wot_o rfl (opt_add (by rfl) (by rfl) (by rfl) (by rfl) (by constructor <;> omega)) (by rfl) (by rfl) (by rfl) ?_
          refine wot_o rfl (opt_assign (by rfl) (by rfl)) (by rfl) (by rfl) (by rfl) ?_
          refine wot_nil ?_
          (refine qst_loop ?_)
          refine rnd (j + 1) (by (try simp only); omega) ?_ (by exact ⟨rfl, rfl, rfl, rfl, rfl, rfl, trivial⟩) (by rw [bits16_succ, if_neg (show ¬ bit16 m j from c3)])
          try dsimp only
          omega
      · (refine wct_exit_seq ?_; refine qst_exit ?_; refine qbt_same ?_; refine qbt_normal ?_; refine qst_wct ?_)
        try simp only [Int.toNat_natCast] at c2
        refine wct_region (by simp) ?_
        refine wot_o rfl (opt_move (by rfl) (by rfl)) (by rfl) (by rfl) (by rfl) ?_
        refine wot_o rfl (opt_add (by rfl) (by rfl) (by rfl) (by rfl) (by constructor <;> omega)) (by rfl) (by rfl) (by rfl) ?_
        refine wot_o rfl (opt_assign (by rfl) (by rfl)) (by rfl) (by rfl) (by rfl) ?_
        refine wot_nil ?_
        (refine qst_loop ?_)
        refine rnd (k + 1) (by (try simp only); omega) ?_ (by exact ⟨rfl, rfl, rfl, rfl, rfl, trivial⟩) (by rw [show j = moreK c by omega, ← moreL_next, ← moreL_next])
        try dsimp only
        omega
    · refine wot_sg (by rfl) (by rfl) (by rfl) (by rfl) (by rfl) (by rfl) ?_
      refine wot_sg (by rfl) (by rfl) (by rfl) (by rfl) (by rfl) (by rfl) ?_
      refine wot_o rfl (by exact opt_pick_f (by rfl) (by rfl) (by rfl) (by rfl) (by rfl) (by rfl) (by rfl)) (by rfl) (by rfl) (by rfl) ?_
      refine wot_nil ?_
      refine wct_ff_seq (by rfl) (by rfl) ?_
      (refine wct_exit_seq ?_; refine qst_exit ?_; refine qbt_same ?_; refine qbt_normal ?_; refine qst_wct ?_)
      refine wct_region (by simp) ?_
      refine wot_o rfl (opt_move (by rfl) (by rfl)) (by rfl) (by rfl) (by rfl) ?_
      refine wot_o rfl (opt_add (by rfl) (by rfl) (by rfl) (by rfl) (by constructor <;> omega)) (by rfl) (by rfl) (by rfl) ?_
      refine wot_o rfl (opt_assign (by rfl) (by rfl)) (by rfl) (by rfl) (by rfl) ?_
      refine wot_nil ?_
      (refine qst_loop ?_)
      refine rnd (k + 1) (by (try simp only); omega) ?_ (by exact ⟨rfl, rfl, rfl, rfl, rfl, trivial⟩) (by rw [show j = moreK c by omega, ← moreL_next, ← moreL_next])
      try dsimp only
      omega
  · (refine wct_exit_seq ?_; refine qst_exit ?_; refine qbt_same ?_; refine qst_wct ?_)
    try simp only [Int.toNat_natCast] at c1
    refine wct_region_seq (by simp) ?_
    refine wot_o rfl (by exact opt_load_row (by rfl) (by rfl) (by rfl) (by rfl) (by rfl)) (by rfl) (by rfl) (by rfl) ?_
    refine wot_of0 rfl (by exact opt_store_row (by rfl) (by rfl) (by rfl) (by rfl) (by rfl) (by trivial) (by rfl) (by rfl) (by rfl)) (EffOk.pure hX) (by rfl) (by rfl) ?_
    refine wot_nil ?_
    (refine wct_ret ?_)
    refine finp_cell (by simp) rfl (by rfl) (by rfl) (by rfl) (by rfl) (Dr.agg (.cons (dr_ow (by rfl) (by rw [moreL_len]; exact hli.symm) (by rfl) (by omega) (Nat.le_refl _)) (.cons (dr_ow (by rfl) (by rw [moreL_len]; exact hlo.symm) (by rfl) (by omega) (Nat.le_refl _)) .nil))) ⟨⟨moreL y.in_ (bits16 m (moreK c)) k [], moreL y.out (bits16 m (moreK c)) k []⟩, rfl, y, hL, ?_⟩
    refine ⟨by rw [moreL_len]; exact hli, by rw [moreL_len]; exact hlo, fun b hb => ⟨?_, ?_⟩⟩
    · rw [moreL_at (by omega), if_pos (by omega)]
    · rw [moreL_at (by omega), if_pos (by omega)]
end Go.Ab
