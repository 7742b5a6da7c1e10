/- The road to a card of this seat: G8. Each theorem holds for every input that its own premises speak of. -/
import Derived.Test.YtaaeeiheeihjaaaDoorG7
set_option linter.all false
namespace Go.Ab
open Go.Proofs
theorem pu56 {s : BS} : Pu Tryd.prog 56 [Enc.tv s] (Eq (ti ((listB s).length : Int))) := by
  have hs := s.h
  refine pu_fn fn56 (by rfl) (by rfl) (by rfl) fun X hX hTb => ?_
  refine wct_region_seq (by simp) ?_
  refine wot_o rfl (opt_box_fz (by rfl) (by rfl) (by trivial)) (by rfl) (by rfl) (by rfl) ?_
  refine wot_o rfl (opt_assign_c (by rfl)) (by rfl) (by rfl) (by rfl) ?_
  refine wot_nil ?_
  refine wct_region_seq (by simp) ?_
  refine wot_o rfl (opt_assign_c (by rfl)) (by rfl) (by rfl) (by rfl) ?_
  refine wot_nil ?_
  (refine wct_assoc ?_)
  refine wct_region_seq (by simp) ?_
  refine wot_o rfl (by exact opt_load_fp_row (by rfl) (by rfl) (by exact (wflat_len _).trans (by assumption))) (by rfl) (by rfl) (by rfl) ?_
  refine wot_o rfl (opt_move_c (by rfl)) (by rfl) (by rfl) (by rfl) ?_
  refine wot_nil ?_
  have hle := listS_len s
  refine wct_loop_seq (fun (i : Nat) => i ≤ 4) (fun (i : Nat) => [(6, Enc.tv s), (3, ti (sizeS s i : Int)), (7, ti (i : Int))]) (fun (i : Nat) => []) (fun (i : Nat) => 4 - i) 0 (by exact ⟨rfl, rfl, rfl, trivial⟩) (by rfl) ?_ ?_
  · simp
  rintro i hi
  refine wct_region_seq (by simp) ?_
  refine wot_o rfl (opt_cmp (by rfl) (by rfl) (by rfl) (by rfl) (by rfl)) (by rfl) (by rfl) (by rfl) ?_
  refine wot_nil ?_
  refine wct_if_seq (by rfl) (by rfl) (fun c1 => ?_) (fun c1 => ?_)
  · (refine wct_skip_seq ?_; refine wct_block_sq ?_)
    try simp only [Int.toNat_natCast] at c1
    have h1 := hle i
    have h2 := sizeS_eq s i
    have h3 := cnt_le 64 (at' s.ws i).toNat
    refine wct_region_seq (by simp) ?_
    refine wot_o rfl (by exact opt_index_arrN (by rfl) (by rfl) (by rfl) (by rfl) (by omega) (by omega) (by rfl) (by rfl)) (by rfl) (by rfl) (by rfl) ?_
    refine wot_o rfl (opt_assign (by rfl) (by rfl)) (by rfl) (by rfl) (by rfl) ?_
    refine wot_nil ?_
    refine wct_region (by simp) ?_
    refine wot_o rfl (opt_move (by rfl) (by rfl)) (by rfl) (by rfl) (by rfl) ?_
    refine wot_o rfl (opt_move (by rfl) (by rfl)) (by rfl) (by rfl) (by rfl) ?_
    refine wot_c hTb rfl (call_bin (by rfl) (by rfl)) (by refine Drs.cons (by exact Dr.cl (by exact Cl.v _)) ?_; exact Drs.nil) (pu84) (by exact Cl.v _) (by rfl) (by rfl) (by rfl) ?_
    refine wot_o rfl (opt_add (by rfl) (by rfl) (by rfl) (by rfl) (by constructor <;> omega)) (by rfl) (by rfl) (by rfl) ?_
    refine wot_o rfl (opt_assign (by rfl) (by rfl)) (by rfl) (by rfl) (by rfl) ?_
    refine wot_nil ?_
    (refine qbt_normal ?_; refine qst_wct ?_)
    refine wct_region (by simp) ?_
    refine wot_o rfl (opt_add (by rfl) (by rfl) (by rfl) (by rfl) (by constructor <;> omega)) (by rfl) (by rfl) (by rfl) ?_
    refine wot_o rfl (opt_move (by rfl) (by rfl)) (by rfl) (by rfl) (by rfl) ?_
    refine wot_nil ?_
    (refine qst_loop ?_)
    refine rnd (i + 1) (by (try simp only); omega) ?_ (by exact ⟨rfl, rfl, rfl, trivial⟩) (by rfl)
    try dsimp only
    omega
  · (refine wct_exit_seq ?_; refine qst_exit ?_; refine qbt_same ?_; refine qst_wct ?_)
    try simp only [Int.toNat_natCast] at c1
    refine wct_region_seq (by simp) ?_
    refine wot_o rfl (opt_move (by rfl) (by rfl)) (by rfl) (by rfl) (by rfl) ?_
    refine wot_o rfl (opt_assign (by rfl) (by rfl)) (by rfl) (by rfl) (by rfl) ?_
    refine wot_nil ?_
    (refine wct_ret ?_)
    refine fin_1c (by simp) rfl (by rfl) (by exact Cl.v _) ?_
    have : i = 4 := by omega
    subst this
    rw [sizeS_eq, listS_four]
def tabN : List Nat := [0, 1, 56, 2, 57, 49, 28, 3, 61, 58, 42, 50, 38, 29, 17, 4, 62, 47, 59, 36, 45, 43, 51, 22, 53, 39, 33, 30, 24, 18, 12, 5, 63, 55, 48, 27, 60, 41, 37, 16, 46, 35, 44, 21, 52, 32, 23, 11, 54, 26, 40, 15, 34, 20, 31, 10, 25, 14, 19, 9, 13, 8, 7, 6]
def tabB : Blk := ⟨tabN.map fun (n : Nat) => .int .u8 (n : Int), 147, true⟩
theorem tab_gl : Gl.tb Tryd.prog = some tabB := by rfl
theorem tab_at : ∀ t, t < 64 → ((1#64 <<< t * 285870213051353865#64) >>> 58).toNat < 64 ∧ tabN[((1#64 <<< t * 285870213051353865#64) >>> 58).toNat]? = some t := by decide +kernel
set_option maxRecDepth 100000 in
theorem conv5 (n : Int) : pureV Tryd.prog (convert 5 3 (.int .u8 n)) = some (.int .i64 (IntKind.i64.wrap n)) := by rfl
theorem conv5n {n : Nat} (h : n < 64) : pureV Tryd.prog (convert 5 3 (.int .u8 (n : Int))) = some (.int .i64 (n : Int)) := by rw [conv5, wrap64n (by omega)]
theorem tab_ld {w : W} {t m : Nat} (ht : t < 64) (h : w.toNat = 2 ^ (t + 1) * m + 2 ^ t) : (((w &&& -w) * 285870213051353865#64) >>> 58).toNat < 64 ∧ (tabB.cells.map TV.v)[((((w &&& -w) * 285870213051353865#64) >>> 58).toNat : Int).toNat * 1]? = some (.v (.int .u8 (t : Int))) := by
  rw [neg_and ht h, Int.toNat_natCast, Nat.mul_one]
  have := tab_at t ht
  refine ⟨this.1, ?_⟩
  rw [List.getElem?_map, tabB, List.getElem?_map, this.2]; rfl
theorem pu80 {w : W} {t : Nat} (ht : (w = 0#64 ∧ t = 64) ∨ (t < 64 ∧ ∃ m, w.toNat = 2 ^ (t + 1) * m + 2 ^ t)) : Pu Tryd.prog 80 [tw w] (Eq (ti (t : Int))) := by
  refine pu_fn fn80 (by rfl) (by rfl) (by rfl) fun X hX hTb => ?_
  refine wct_region_seq (by simp) ?_
  refine wot_o rfl (opt_assign_c (by rfl)) (by rfl) (by rfl) (by rfl) ?_
  refine wot_nil ?_
  (refine wct_assoc ?_)
  refine wct_region_seq (by simp) ?_
  refine wot_o rfl (opt_move (by rfl) (by rfl)) (by rfl) (by rfl) (by rfl) ?_
  refine wot_o rfl (by exact opt_eqlC (by rfl) (by rfl) (by rfl) (by rfl)) (by rfl) (by rfl) (by rfl) ?_
  refine wot_nil ?_
  refine wct_if_seq (by rfl) (by rfl) (fun c1 => ?_) (fun c1 => ?_)
  · (refine wct_assoc ?_)
    try simp only [Int.toNat_natCast] at c1
    refine wct_region_seq (by simp) ?_
    refine wot_o rfl (opt_assign_c (by rfl)) (by rfl) (by rfl) (by rfl) ?_
    refine wot_nil ?_
    (refine wct_ret_seq ?_)
    refine fin_1c (by simp) rfl (by rfl) (by exact Cl.v _) ?_
    rcases ht with h | h
    · rw [h.2]; rfl
    · obtain ⟨h1, m, h⟩ := h
      have := Nat.two_pow_pos t
      rw [c1] at h; simp at h; omega
  · (refine wct_skip_seq ?_)
    try simp only [Int.toNat_natCast] at c1
    obtain ⟨ht, m, h⟩ : (t < 64 ∧ ∃ m, w.toNat = 2 ^ (t + 1) * m + 2 ^ t) := ht.resolve_left fun e => c1 e.1
    have htl := tab_ld ht h
    refine wct_region_seq (by simp) ?_
    refine wot_o rfl (opt_move (by rfl) (by rfl)) (by rfl) (by rfl) (by rfl) ?_
    refine wot_o rfl (opt_move (by rfl) (by rfl)) (by rfl) (by rfl) (by rfl) ?_
    refine wot_o rfl (opt_negW (by rfl) (by rfl) (neg_run _)) (by rfl) (by rfl) (by rfl) ?_
    refine wot_o rfl (by exact opt_andW (by rfl) (by rfl) (by rfl) (by rfl)) (by rfl) (by rfl) (by rfl) ?_
    refine wot_o rfl (by exact opt_mulC (by rfl) (by rfl) (by rfl) (by rfl)) (by rfl) (by rfl) (by rfl) ?_
    refine wot_o rfl (by exact opt_shrC (by rfl) (by rfl) (by rfl) (by rfl) (by decide)) (by rfl) (by rfl) (by rfl) ?_
    refine wot_o rfl (opt_index_glob (hTb.trans tab_gl) (by decide) (by rfl) (by rfl) (by rfl) (by omega) (by have := htl.1; omega)) (by rfl) (by rfl) (by rfl) ?_
    refine wot_o rfl (opt_load_fp_1 (y := .v (.int .u8 (t : Int))) (by rfl) (by rfl) htl.2) (by rfl) (by rfl) (by rfl) ?_
    refine wot_o rfl (opt_conv (by rfl) (by rfl) (conv5n ht) (by rfl) (by rfl)) (by rfl) (by rfl) (by rfl) ?_
    refine wot_o rfl (opt_assign (by rfl) (by rfl)) (by rfl) (by rfl) (by rfl) ?_
    refine wot_nil ?_
    (refine wct_ret ?_)
    refine fin_1c (by simp) rfl (by rfl) (by exact Cl.v _) ?_
    rfl
theorem pu47 {s : BS} : Pu Tryd.prog 47 [Enc.tv s] (Eq (lst false (listB s))) := by
  have hs := s.h
  refine pu_fn fn47 (by rfl) (by rfl) (by rfl) fun X hX hTb => ?_
  refine wct_region_seq (by simp) ?_
  refine wot_o rfl (opt_box_fz (by rfl) (by rfl) (by trivial)) (by rfl) (by rfl) (by rfl) ?_
  refine wot_o rfl (opt_assign_c (by rfl)) (by rfl) (by rfl) (by rfl) ?_
  refine wot_nil ?_
  refine wct_region_seq (by simp) ?_
  refine wot_o rfl (opt_assign_c (by rfl)) (by rfl) (by rfl) (by rfl) ?_
  refine wot_nil ?_
  (refine wct_assoc ?_)
  refine wct_ghost (g_nil (d := 3) 1 3 (by rfl)) ?_
  refine wct_region_seq (by simp) ?_
  refine wot_o rfl (by exact opt_load_fp_row (by rfl) (by rfl) (by exact (wflat_len _).trans (by assumption))) (by rfl) (by rfl) (by rfl) ?_
  refine wot_o rfl (opt_move_c (by rfl)) (by rfl) (by rfl) (by rfl) ?_
  refine wot_nil ?_
  refine wct_loop3 (fun (i : Nat) (g : Nat) (ys : List Int) => i ≤ 4 ∧ ys = listS s i) (fun (i : Nat) (g : Nat) (ys : List Int) => [(6, Enc.tv s), (3, ownl 0 g ys), (7, ti (i : Int))]) (fun (i : Nat) (g : Nat) (ys : List Int) => [rl g 3 ys]) (fun (i : Nat) (g : Nat) (ys : List Int) => 4 - i) 0 0 [] (by exact ⟨rfl, rfl, rfl, trivial⟩) (by rfl) ?_ ?_
  · exact ⟨by omega, rfl⟩
  rintro i g ys ⟨hi, hy⟩
  refine wct_region_seq (by simp) ?_
  refine wot_o rfl (opt_cmp (by rfl) (by rfl) (by rfl) (by rfl) (by rfl)) (by rfl) (by rfl) (by rfl) ?_
  refine wot_nil ?_
  refine wct_if_seq (by rfl) (by rfl) (fun c1 => ?_) (fun c1 => ?_)
  · (refine wct_skip_seq ?_; refine wct_block_sq ?_)
    try simp only [Int.toNat_natCast] at c1
    refine wct_region_seq (by simp) ?_
    refine wot_o rfl (opt_move (by rfl) (by rfl)) (by rfl) (by rfl) (by rfl) ?_
    refine wot_o rfl (by exact opt_index_arrN (by rfl) (by rfl) (by rfl) (by rfl) (by omega) (by omega) (by rfl) (by rfl)) (by rfl) (by rfl) (by rfl) ?_
    refine wot_o rfl (opt_assign (by rfl) (by rfl)) (by rfl) (by rfl) (by rfl) ?_
    refine wot_o rfl (opt_assign (by rfl) (by rfl)) (by rfl) (by rfl) (by rfl) ?_
    refine wot_nil ?_
    have hyl := listS_len s (i + 1)
    refine wct_loop13 (fun (g : Nat) (ys : List Int) (w : W) => ys ++ bitsW i w = listS s (i + 1)) (fun (g : Nat) (ys : List Int) (w : W) => [(6, Enc.tv s), (3, ownl 0 g ys), (4, ti (i : Int)), (5, tw w), (7, ti (i : Int))]) (fun (g : Nat) (ys : List Int) (w : W) => [rl g 3 ys]) (fun (g : Nat) (ys : List Int) (w : W) => (bitsW i w).length) g ys (at' s.ws i) (by exact ⟨rfl, rfl, rfl, rfl, rfl, trivial⟩) (by rfl) ?_ ?_
    · rw [hy, listS_succ]
    rintro g ys w hI
    (refine wct_assoc ?_)
    refine wct_region_seq (by simp) ?_
    refine wot_o rfl (opt_move (by rfl) (by rfl)) (by rfl) (by rfl) (by rfl) ?_
    refine wot_o rfl (by exact opt_neqC (by rfl) (by rfl) (by rfl) (by rfl)) (by rfl) (by rfl) (by rfl) ?_
    refine wot_nil ?_
    refine wct_if_seq (by rfl) (by rfl) (fun c2 => ?_) (fun c2 => ?_)
    · (refine wct_skip_seq ?_; refine wct_block_rg ?_)
      try simp only [Int.toNat_natCast] at c2
      obtain ⟨t, m, ht, hm⟩ := low_ex c2
      have hbc := bits_clear (i := i) ht hm
      have hbl : (bitsW i w).length = (bitsW i (w &&& (w - 1#64))).length + 1 := by rw [hbc]; rfl
      have hyl2 : ys.length ≤ 256 := by rw [← hI, List.length_append] at hyl; omega
      refine wct_region (by simp) ?_
      refine wot_o rfl (opt_move (by rfl) (by rfl)) (by rfl) (by rfl) (by rfl) ?_
      refine wot_o rfl (opt_move (by rfl) (by rfl)) (by rfl) (by rfl) (by rfl) ?_
      refine wot_o rfl (opt_mul (by rfl) (by rfl) (by rfl) (by rfl) (by constructor <;> omega)) (by rfl) (by rfl) (by rfl) ?_
      refine wot_o rfl (opt_move (by rfl) (by rfl)) (by rfl) (by rfl) (by rfl) ?_
      refine wot_c hTb rfl (call_bin (by rfl) (by rfl)) (by refine Drs.cons (by exact Dr.cl (by exact Cl.v _)) ?_; exact Drs.nil) (pu80 (.inr ⟨ht, m, hm⟩)) (by exact Cl.v _) (by rfl) (by rfl) (by rfl) ?_
      refine wot_o rfl (opt_add (by rfl) (by rfl) (by rfl) (by rfl) (by constructor <;> omega)) (by rfl) (by rfl) (by rfl) ?_
      refine wot_o rfl (opt_lit_l ([64 * (i : Int) + (t : Int)]) (by rfl) (by rfl) (by rfl) (by rfl) (by rfl) (by rfl) (by rfl) (by rfl) (by rfl) (by rfl)) (by rfl) (by rfl) (by rfl) ?_
      refine wot_of rfl (by exact opt_append_l (by rfl) (by rfl) (by rfl) (by rfl) src_lst (by rfl) (by rfl) (by rfl) (by (simp only [List.length_append, List.length_cons, List.length_nil, List.length_take, List.length_drop]; omega)) (by rfl)) (EffOk.pure hX) (by rfl) (by rfl) (by rfl) ?_
      refine wot_o rfl (opt_assign (by rfl) (by rfl)) (by rfl) (by rfl) (by rfl) ?_
      refine wot_nil ?_
      (refine qbt_normal ?_; refine qst_wct ?_)
      refine wct_region (by simp) ?_
      refine wot_o rfl (opt_move (by rfl) (by rfl)) (by rfl) (by rfl) (by rfl) ?_
      refine wot_o rfl (opt_move (by rfl) (by rfl)) (by rfl) (by rfl) (by rfl) ?_
      refine wot_o rfl (by exact opt_subC (by rfl) (by rfl) (by rfl) (by rfl)) (by rfl) (by rfl) (by rfl) ?_
      refine wot_o rfl (by exact opt_andW (by rfl) (by rfl) (by rfl) (by rfl)) (by rfl) (by rfl) (by rfl) ?_
      refine wot_o rfl (opt_assign (by rfl) (by rfl)) (by rfl) (by rfl) (by rfl) ?_
      refine wot_nil ?_
      (refine qst_loop ?_)
      refine rnd (g + 1, ys ++ [64 * (i : Int) + (t : Int)], w &&& (w - 1#64)) (by (try simp only); omega) ?_ (by exact ⟨rfl, rfl, rfl, rfl, rfl, trivial⟩) (by rfl)
      try dsimp only
      rw [List.append_assoc]
      exact (congrArg (ys ++ ·) hbc.symm).trans hI
    · (refine wct_exit_seq ?_; refine qst_exit ?_; refine qbt_same ?_; refine qbt_normal ?_; refine qst_wct ?_)
      try simp only [Int.toNat_natCast] at c2
      refine wct_region (by simp) ?_
      refine wot_o rfl (opt_add (by rfl) (by rfl) (by rfl) (by rfl) (by constructor <;> omega)) (by rfl) (by rfl) (by rfl) ?_
      refine wot_o rfl (opt_move (by rfl) (by rfl)) (by rfl) (by rfl) (by rfl) ?_
      refine wot_nil ?_
      (refine qst_loop ?_)
      refine rnd (i + 1, g, ys) (by (try simp only); omega) ?_ (by exact ⟨rfl, rfl, rfl, trivial⟩) (by rfl)
      try dsimp only
      refine ⟨by omega, ?_⟩
      have c2 : w = 0#64 := by simpa using c2
      rw [c2, bitsW_zero, List.append_nil] at hI
      exact hI
  · (refine wct_exit_seq ?_; refine qst_exit ?_; refine qbt_same ?_; refine qst_wct ?_)
    try simp only [Int.toNat_natCast] at c1
    have hyl3 := listS_len s i
    rw [← hy] at hyl3
    refine wct_region_seq (by simp) ?_
    refine wot_o rfl (opt_move (by rfl) (by rfl)) (by rfl) (by rfl) (by rfl) ?_
    refine wot_o rfl (opt_assign (by rfl) (by rfl)) (by rfl) (by rfl) (by rfl) ?_
    refine wot_nil ?_
    (refine wct_ret ?_)
    refine fin_1 (by simp) rfl (by rfl) (by exact dr_ow (by rfl) (by rfl) (by rfl) (by omega) (by exact Nat.le_refl _)) ?_
    have : i = 4 := by omega
    subst this
    rw [hy, listS_four]
end Go.Ab
