/- The road to a card of this seat: G17. Each theorem holds for every input that its own premises speak of. -/
import Derived.Test.YtaaeeiheeihjaaaDoorG16
set_option linter.all false
namespace Go.Ab
open Go.Proofs
theorem pu43 {c : Code} (hf : Fit c) : Pu Tryd.prog 43 [Enc.tv c] (Eq (lst false (reachL c))) := by
  have hn := hf.nb
  refine pu_fn fn43 (by rfl) (by rfl) (by rfl) fun X hX hTb => ?_
  refine wct_region_seq (by simp) ?_
  refine wot_o rfl (opt_box_fz (by rfl) (by rfl) (by trivial)) (by rfl) (by rfl) (by rfl) ?_
  refine wot_o rfl (opt_assign_c (by rfl)) (by rfl) (by rfl) (by rfl) ?_
  refine wot_nil ?_
  refine wct_region_seq (by simp) ?_
  refine wot_o rfl (by exact opt_fieldAddr_fp (by rfl) (by rfl)) (by rfl) (by rfl) (by rfl) ?_
  refine wot_o rfl (by exact opt_load_fp_1 (by rfl) (by rfl) (by rfl)) (by rfl) (by rfl) (by rfl) ?_
  refine wot_o rfl (by exact opt_len_fz (by rfl) (by rfl) (by rfl)) (by rfl) (by rfl) (by rfl) ?_
  refine wot_o rfl (opt_make_l (false) (by rfl) (by rfl) (by rfl) (by rfl) (by omega) (by omega) (by rfl) (by rfl) (by rfl) (by rfl)) (by rfl) (by rfl) (by rfl) ?_
  refine wot_o rfl (opt_assign (by rfl) (by rfl)) (by rfl) (by rfl) (by rfl) ?_
  refine wot_nil ?_
  refine wct_region_seq (by simp) ?_
  refine wot_o rfl (opt_move (by rfl) (by rfl)) (by rfl) (by rfl) (by rfl) ?_
  refine wot_o rfl (by exact opt_index_l (by rfl) (by rfl) (by rfl) (by rfl) (by rfl) (by omega) (by omega)) (by rfl) (by rfl) (by rfl) ?_
  refine wot_of0 rfl (by exact opt_store_l (by rfl) (by rfl) (by rfl) (by rfl) (by rfl) (by trivial) (by rfl) (by (simp only [List.length_append, List.length_cons, List.length_nil, List.length_take, List.length_drop, List.length_set, List.length_replicate]; omega)) (by rfl) (by rfl)) (EffOk.pure hX) (by rfl) (by rfl) ?_
  refine wot_nil ?_
  (refine wct_assoc ?_)
  refine wct_region_seq (by simp) ?_
  refine wot_o rfl (opt_litO_l ([(0 : Int)]) (by rfl) (by rfl) (by rfl) (by rfl) (by rfl) (by rfl) (by rfl) (by rfl) (by rfl) (by rfl)) (by rfl) (by rfl) (by rfl) ?_
  refine wot_o rfl (opt_assign (by rfl) (by rfl)) (by rfl) (by rfl) (by rfl) ?_
  refine wot_nil ?_
  refine wct_loop5 (fun (g : Nat) (k : Nat) (cap : Nat) (bs : List Bool) (zs : List Int) => k ≤ zs.length ∧ k ≤ cap ∧ Walk c bs (zs.take k) (2 * c.b.length + 1)) (fun (g : Nat) (k : Nat) (cap : Nat) (bs : List Bool) (zs : List Int) => [(1, .fp false (cls c) 0), (3, .own 0 0 1 0 c.b.length c.b.length), (4, .own 1 g 1 0 k cap)]) (fun (g : Nat) (k : Nat) (cap : Nat) (bs : List Bool) (zs : List Int) => [rl 0 4 bs, rl g 3 zs]) (fun (g : Nat) (k : Nat) (cap : Nat) (bs : List Bool) (zs : List Int) => 2 * bs.count false + k) 0 1 1 ((List.replicate c.b.length false).set 0 true) [0] (by exact ⟨rfl, rfl, rfl, trivial⟩) (by rfl) ?_ ?_
  · exact ⟨by simp, by omega, Walk.start hf⟩
  rintro g k cap bs zs ⟨hk, hkc, hW⟩
  (refine wct_assoc ?_)
  refine wct_region_seq (by simp) ?_
  refine wot_o rfl (opt_move (by rfl) (by rfl)) (by rfl) (by rfl) (by rfl) ?_
  refine wot_o rfl (by exact opt_len_own (by rfl) (by rfl) (by rfl) (by rfl)) (by rfl) (by rfl) (by rfl) ?_
  refine wot_o rfl (opt_cmp (by rfl) (by rfl) (by rfl) (by rfl) (by rfl)) (by rfl) (by rfl) (by rfl) ?_
  refine wot_nil ?_
  refine wct_if_seq (by rfl) (by rfl) (fun c1 => ?_) (fun c1 => ?_)
  · (refine wct_skip_seq ?_; refine wct_block1 ?_)
    try simp only [Int.toNat_natCast] at c1
    have hlen := hW.len
    have hzk : (zs.take k).length = k := by rw [List.length_take]; omega
    have hms := hW.ms
    have hW' : Walk c bs (zs.take k) (2 * bs.count false + k) := ⟨hW.len, hW.sd, hW.z, hW.cl, hW.wk, by rw [hzk]; omega⟩
    have hP := hW'.pop (by omega)
    have hat : at' (zs.take k) ((zs.take k).length - 1) = at' zs (k - 1) := by rw [hzk, at_take (by omega)]
    rw [hzk] at hms
    rw [hat, hzk, List.take_take, show min (k - 1) k = k - 1 by omega] at hP
    have hwk := hW.wk (at' zs (k - 1)) (by rw [← hat]; exact mem_at.2 ⟨_, by omega, rfl⟩)
    refine wct_region_seq (by simp) ?_
    refine wot_o rfl (opt_move (by rfl) (by rfl)) (by rfl) (by rfl) (by rfl) ?_
    refine wot_o rfl (opt_move (by rfl) (by rfl)) (by rfl) (by rfl) (by rfl) ?_
    refine wot_o rfl (by exact opt_len_own (by rfl) (by rfl) (by rfl) (by rfl)) (by rfl) (by rfl) (by rfl) ?_
    refine wot_o rfl (opt_subN (by rfl) (by rfl) (by rfl) (by rfl) (by omega) (by omega)) (by rfl) (by rfl) (by rfl) ?_
    refine wot_o rfl (by exact opt_index_lN (by rfl) (by rfl) (by rfl) (by rfl) (by rfl) (by omega)) (by rfl) (by rfl) (by rfl) ?_
    refine wot_o rfl (by exact opt_load_l1 (by rfl) (by rfl) (by rfl) (by omega) (by rfl) (by rfl)) (by rfl) (by rfl) (by rfl) ?_
    refine wot_o rfl (opt_assign (by rfl) (by rfl)) (by rfl) (by rfl) (by rfl) ?_
    refine wot_nil ?_
    refine wct_region_seq (by simp) ?_
    refine wot_o rfl (opt_move (by rfl) (by rfl)) (by rfl) (by rfl) (by rfl) ?_
    refine wot_o rfl (opt_move (by rfl) (by rfl)) (by rfl) (by rfl) (by rfl) ?_
    refine wot_o rfl (by exact opt_len_own (by rfl) (by rfl) (by rfl) (by rfl)) (by rfl) (by rfl) (by rfl) ?_
    refine wot_o rfl (opt_subN (by rfl) (by rfl) (by rfl) (by rfl) (by omega) (by omega)) (by rfl) (by rfl) (by rfl) ?_
    refine wot_o rfl (by exact opt_slice_own_hi (by rfl) (by rfl) (by rfl) (by rfl) (by rfl) (by omega) (by omega) (by rfl)) (by rfl) (by rfl) (by rfl) ?_
    refine wot_o rfl (opt_assign (by rfl) (by rfl)) (by rfl) (by rfl) (by rfl) ?_
    refine wot_nil ?_
    refine wct_region_seq (by simp) ?_
    refine wot_o rfl (by exact opt_fieldAddr_fp (by rfl) (by rfl)) (by rfl) (by rfl) (by rfl) ?_
    refine wot_o rfl (by exact opt_load_fp_1 (by rfl) (by rfl) (by rfl)) (by rfl) (by rfl) (by rfl) ?_
    refine wot_o rfl (opt_move (by rfl) (by rfl)) (by rfl) (by rfl) (by rfl) ?_
    refine wot_o rfl (by exact opt_index_lst (by rfl) (by rfl) (by rfl) (by rfl) (by omega) (by omega) (by rfl)) (by rfl) (by rfl) (by rfl) ?_
    refine wot_o rfl (by exact opt_fieldAddr_fp (by rfl) (by rfl)) (by rfl) (by rfl) (by rfl) ?_
    refine wot_o (x := Enc.tv (at' c.b (at' zs (k - 1)).toNat).t) rfl (opt_as (by exact opt_load_fp_a (by rfl) (by rfl) (by rfl)) (by rfl)) (by rfl) (by rfl) (by rfl) ?_
    refine wot_c hTb rfl (call_bin (by rfl) (by rfl)) (by refine Drs.cons (by exact Dr.cl (by exact Enc.cl _)) ?_; exact Drs.nil) (pu44) (by exact lst_cl _) (by rfl) (by rfl) (by rfl) ?_
    refine wot_o rfl (by exact opt_len_fz (by rfl) (by rfl) (by rfl)) (by rfl) (by rfl) (by rfl) ?_
    refine wot_o rfl (opt_move_c (by rfl)) (by rfl) (by rfl) (by rfl) ?_
    refine wot_nil ?_
    have hsl := succT_len (at' c.b (at' zs (k - 1)).toNat).t
    refine wct_loop16 (fun (i : Nat) (g2 : Nat) (k2 : Nat) (cap2 : Nat) (cs : List Bool) (ys : List Int) => i ≤ (succT (at' c.b (at' zs (k - 1)).toNat).t).length ∧ k2 ≤ ys.length ∧ k2 ≤ cap2 ∧ WalkI c cs (ys.take k2) (2 * bs.count false + k - 1) (at' zs (k - 1)).toNat i) (fun (i : Nat) (g2 : Nat) (k2 : Nat) (cap2 : Nat) (cs : List Bool) (ys : List Int) => [(1, .fp false (cls c) 0), (3, .own 0 0 1 0 c.b.length c.b.length), (4, .own 1 g2 1 0 k2 cap2), (35, lst false (succT (at' c.b (at' zs (k - 1)).toNat).t)), (36, ti ((succT (at' c.b (at' zs (k - 1)).toNat).t).length : Int)), (37, ti (i : Int))]) (fun (i : Nat) (g2 : Nat) (k2 : Nat) (cap2 : Nat) (cs : List Bool) (ys : List Int) => [rl 0 4 cs, rl g2 3 ys]) (fun (i : Nat) (g2 : Nat) (k2 : Nat) (cap2 : Nat) (cs : List Bool) (ys : List Int) => (succT (at' c.b (at' zs (k - 1)).toNat).t).length - i) 0 g (k - 1) cap bs zs (by exact ⟨rfl, rfl, rfl, rfl, rfl, rfl, trivial⟩) (by rfl) ?_ ?_
    · exact ⟨by omega, by omega, by omega, hP⟩
    rintro i g2 k2 cap2 cs ys ⟨hi, hk2, hkc2, hI⟩
    refine wct_region_seq (by simp) ?_
    refine wot_o rfl (opt_cmp (by rfl) (by rfl) (by rfl) (by rfl) (by rfl)) (by rfl) (by rfl) (by rfl) ?_
    refine wot_nil ?_
    refine wct_if_seq (by rfl) (by rfl) (fun c2 => ?_) (fun c2 => ?_)
    · (refine wct_skip_seq ?_; refine wct_block_sq ?_)
      try simp only [Int.toNat_natCast] at c2
      have hclen := hI.len
      have hto := hf.to _ (at_mem' (xs := c.b) (k := (at' zs (k - 1)).toNat) (by omega)) _ (at_mem (xs := succT (at' c.b (at' zs (k - 1)).toNat).t) (k := i) (by omega))
      have hyk : (ys.take k2).length = k2 := by rw [List.length_take]; omega
      have hims := hI.ms
      rw [hyk] at hims
      refine wct_region_seq (by simp) ?_
      refine wot_o rfl (by exact opt_index_lstN (by rfl) (by rfl) (by rfl) (by rfl) (by omega) (by rfl)) (by rfl) (by rfl) (by rfl) ?_
      refine wot_o rfl (by exact opt_load_fp_1 (by rfl) (by rfl) (by rfl)) (by rfl) (by rfl) (by rfl) ?_
      refine wot_o rfl (opt_assign (by rfl) (by rfl)) (by rfl) (by rfl) (by rfl) ?_
      refine wot_nil ?_
      refine wct_region_seq (by simp) ?_
      refine wot_o rfl (opt_move (by rfl) (by rfl)) (by rfl) (by rfl) (by rfl) ?_
      refine wot_o rfl (opt_move (by rfl) (by rfl)) (by rfl) (by rfl) (by rfl) ?_
      refine wot_o rfl (by exact opt_index_l (by rfl) (by rfl) (by rfl) (by rfl) (by rfl) (by omega) (by omega)) (by rfl) (by rfl) (by rfl) ?_
      refine wot_o rfl (by exact opt_load_l1 (by rfl) (by rfl) (by rfl) (by omega) (by rfl) (by rfl)) (by rfl) (by rfl) (by rfl) ?_
      refine wot_o rfl (opt_not (by rfl) (by rfl)) (by rfl) (by rfl) (by rfl) ?_
      refine wot_nil ?_
      refine wct_ifb (by rfl) (by rfl) (fun c3 => ?_) (fun c3 => ?_)
      · (skip)
        try simp only [Int.toNat_natCast] at c3
        refine wct_region_seq (by simp) ?_
        refine wot_o rfl (opt_move (by rfl) (by rfl)) (by rfl) (by rfl) (by rfl) ?_
        refine wot_o rfl (opt_move (by rfl) (by rfl)) (by rfl) (by rfl) (by rfl) ?_
        refine wot_o rfl (by exact opt_index_l (by rfl) (by rfl) (by rfl) (by rfl) (by rfl) (by omega) (by omega)) (by rfl) (by rfl) (by rfl) ?_
        refine wot_of0 rfl (by exact opt_store_l (by rfl) (by rfl) (by rfl) (by rfl) (by rfl) (by trivial) (by rfl) (by omega) (by rfl) (by rfl)) (EffOk.pure hX) (by rfl) (by rfl) ?_
        refine wot_nil ?_
        refine wct_region (by simp) ?_
        refine wot_o rfl (opt_move (by rfl) (by rfl)) (by rfl) (by rfl) (by rfl) ?_
        refine wot_o rfl (opt_move (by rfl) (by rfl)) (by rfl) (by rfl) (by rfl) ?_
        refine wot_o rfl (opt_lit_l ([at' (succT (at' c.b (at' zs (k - 1)).toNat).t) i]) (by rfl) (by rfl) (by rfl) (by rfl) (by rfl) (by rfl) (by rfl) (by rfl) (by rfl) (by rfl)) (by rfl) (by rfl) (by rfl) ?_
        refine wot_of rfl (by exact opt_append_q (by rfl) (by rfl) (by rfl) (by omega) src_lst (by rfl) (by rfl) (by rfl) (by (simp only [List.length_append, List.length_cons, List.length_nil, List.length_take, List.length_drop]; omega)) (by rfl) (by rfl)) (EffOk.pure hX) (by rfl) (by rfl) (by rfl) ?_
        refine wot_o rfl (opt_assign (by rfl) (by rfl)) (by rfl) (by rfl) (by rfl) ?_
        refine wot_nil ?_
        (refine qbt_normal ?_; refine qst_wct ?_)
        refine wct_region (by simp) ?_
        refine wot_o rfl (opt_add (by rfl) (by rfl) (by rfl) (by rfl) (by constructor <;> omega)) (by rfl) (by rfl) (by rfl) ?_
        refine wot_o rfl (opt_move (by rfl) (by rfl)) (by rfl) (by rfl) (by rfl) ?_
        refine wot_nil ?_
        (refine qst_loop ?_)
        refine rnd (i + 1, g2 + 1, (ys.take k2 ++ [at' (succT (at' c.b (at' zs (k - 1)).toNat).t) i]).length, (ys.take k2 ++ [at' (succT (at' c.b (at' zs (k - 1)).toNat).t) i]).length, cs.set (at' (succT (at' c.b (at' zs (k - 1)).toNat).t) i).toNat true, ys.take k2 ++ [at' (succT (at' c.b (at' zs (k - 1)).toNat).t) i]) (by (try simp only); omega) ?_ (by exact ⟨rfl, rfl, rfl, rfl, rfl, rfl, trivial⟩) (by rfl)
        try dsimp only
        have c3 : at' cs (at' (succT (at' c.b (at' zs (k - 1)).toNat).t) i).toNat = false := by simpa using c3
        refine ⟨by omega, Nat.le_refl _, Nat.le_refl _, ?_⟩
        rw [List.take_length]
        exact hI.add hf (by omega) c3
      · (refine wct_skip ?_; refine qbt_normal ?_; refine qst_wct ?_)
        try simp only [Int.toNat_natCast] at c3
        refine wct_region (by simp) ?_
        refine wot_o rfl (opt_add (by rfl) (by rfl) (by rfl) (by rfl) (by constructor <;> omega)) (by rfl) (by rfl) (by rfl) ?_
        refine wot_o rfl (opt_move (by rfl) (by rfl)) (by rfl) (by rfl) (by rfl) ?_
        refine wot_nil ?_
        (refine qst_loop ?_)
        refine rnd (i + 1, g2, k2, cap2, cs, ys) (by (try simp only); omega) ?_ (by exact ⟨rfl, rfl, rfl, rfl, rfl, rfl, trivial⟩) (by rfl)
        try dsimp only
        have c3 : at' cs (at' (succT (at' c.b (at' zs (k - 1)).toNat).t) i).toNat = true := by simpa using c3
        exact ⟨by omega, hk2, hkc2, hI.skip (by omega) c3⟩
    · (refine wct_exit_seq ?_; refine qst_exit ?_; refine qbt_same ?_; refine qbt_normal ?_; refine qst_loop ?_)
      try simp only [Int.toNat_natCast] at c2
      have hO := hI.out (by omega)
      have hyk : (ys.take k2).length = k2 := by rw [List.length_take]; omega
      have hOm := hO.ms
      rw [hyk] at hOm
      refine rnd (g2, k2, cap2, cs, ys) ?_ ?_ (by exact ⟨rfl, rfl, rfl, trivial⟩) rfl
      · show 2 * cs.count false + k2 < 2 * bs.count false + k
        omega
      · dsimp only
        exact ⟨hk2, hkc2, ⟨hO.len, hO.sd, hO.z, hO.cl, hO.wk, by rw [hyk]; omega⟩⟩
  · (refine wct_exit_seq ?_; refine qst_exit ?_; refine qbt_same ?_; refine qst_wct ?_)
    try simp only [Int.toNat_natCast] at c1
    have hlen := hW.len
    refine wct_region_seq (by simp) ?_
    refine wot_o rfl (opt_move (by rfl) (by rfl)) (by rfl) (by rfl) (by rfl) ?_
    refine wot_o rfl (opt_assign (by rfl) (by rfl)) (by rfl) (by rfl) (by rfl) ?_
    refine wot_nil ?_
    (refine wct_ret ?_)
    refine fin_1 (by simp) rfl (by rfl) (by exact dr_ow (by rfl) (by omega) (by rfl) (by omega) (by exact Nat.le_refl _)) ?_
    have : k = 0 := by omega
    subst this
    rw [List.take_zero] at hW
    rw [hW.done hf]
end Go.Ab
