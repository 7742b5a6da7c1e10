/- The road to a card of this seat: G3. Each theorem holds for every input that its own premises speak of. -/
import Derived.Test.YtaaeeiheeihjaaaDoorG2
set_option linter.all false
namespace Go.Ab
open Go.Proofs
theorem stop_fold {o : List Bool} {b : Nat} (h : at' o b = false) : ∀ l : List Int, l.foldl (fun o s => if at' o b then o.set s.toNat true else o) o = o
  | [] => rfl
  | s :: l => by rw [List.foldl_cons, h]; exact stop_fold h l
theorem pu25 {c : Code} (hf : Fit c) : Pu Tryd.prog 25 [Enc.tv c] (Eq (lst false (reachL c))) := by
  have hn := hf.nb
  refine pu_fn fn25 (by rfl) (by rfl) (by rfl) fun X hX hTb => ?_
  refine wct_region_seq (by simp) ?_
  refine wot_o rfl (opt_box_fz (by rfl) (by rfl) (by trivial)) (by rfl) (by rfl) (by rfl) ?_
  refine wot_o rfl (opt_assign_c (by rfl)) (by rfl) (by rfl) (by rfl) ?_
  refine wot_nil ?_
  refine wct_region_seq (by simp) ?_
  refine wot_o rfl (by exact opt_fieldAddr_fp (by rfl) (by rfl)) (by rfl) (by rfl) (by rfl) ?_
  refine wot_o rfl (by exact opt_load_fp_1 (by rfl) (by rfl) (by rfl)) (by rfl) (by rfl) (by rfl) ?_
  refine wot_o rfl (by exact opt_len_fz (by rfl) (by rfl) (by rfl)) (by rfl) (by rfl) (by rfl) ?_
  refine wot_o rfl (opt_make_l (false) (by rfl) (by rfl) (by rfl) (by rfl) (by omega) (by omega) (by rfl) (by rfl) (by rfl) (by rfl)) (by rfl) (by rfl) (by rfl) ?_
  refine wot_o rfl (opt_assign (by rfl) (by rfl)) (by rfl) (by rfl) (by rfl) ?_
  refine wot_nil ?_
  refine wct_region_seq (by simp) ?_
  refine wot_o rfl (opt_move (by rfl) (by rfl)) (by rfl) (by rfl) (by rfl) ?_
  refine wot_o rfl (by exact opt_index_l (by rfl) (by rfl) (by rfl) (by rfl) (by rfl) (by omega) (by omega)) (by rfl) (by rfl) (by rfl) ?_
  refine wot_of0 rfl (by exact opt_store_l (by rfl) (by rfl) (by rfl) (by rfl) (by rfl) (by trivial) (by rfl) (by (simp only [List.length_append, List.length_cons, List.length_nil, List.length_take, List.length_drop, List.length_set, List.length_replicate]; omega)) (by rfl) (by rfl)) (EffOk.pure hX) (by rfl) (by rfl) ?_
  refine wot_nil ?_
  (refine wct_assoc ?_)
  refine wct_region_seq (by simp) ?_
  refine wot_o rfl (opt_assign_c (by rfl)) (by rfl) (by rfl) (by rfl) ?_
  refine wot_nil ?_
  refine wct_loop2 (fun (k : Nat) (bs : List Bool) => k ≤ c.b.length ∧ bs = (List.range k).foldl (fun o _ => reachP c o) ((List.replicate c.b.length false).set 0 true) ∧ bs.length = c.b.length) (fun (k : Nat) (bs : List Bool) => [(1, .fp false (cls c) 0), (3, .own 0 0 1 0 c.b.length c.b.length), (4, ti (k : Int))]) (fun (k : Nat) (bs : List Bool) => [rl 0 4 bs]) (fun (k : Nat) (bs : List Bool) => c.b.length - k) 0 ((List.replicate c.b.length false).set 0 true) (by exact ⟨rfl, rfl, rfl, trivial⟩) (by rfl) ?_ ?_
  · exact ⟨by omega, rfl, by simp⟩
  rintro k bs ⟨h1, h2, h3⟩
  (refine wct_assoc ?_)
  refine wct_region_seq (by simp) ?_
  refine wot_o rfl (opt_move (by rfl) (by rfl)) (by rfl) (by rfl) (by rfl) ?_
  refine wot_o rfl (by exact opt_fieldAddr_fp (by rfl) (by rfl)) (by rfl) (by rfl) (by rfl) ?_
  refine wot_o rfl (by exact opt_load_fp_1 (by rfl) (by rfl) (by rfl)) (by rfl) (by rfl) (by rfl) ?_
  refine wot_o rfl (by exact opt_len_fz (by rfl) (by rfl) (by rfl)) (by rfl) (by rfl) (by rfl) ?_
  refine wot_o rfl (opt_cmp (by rfl) (by rfl) (by rfl) (by rfl) (by rfl)) (by rfl) (by rfl) (by rfl) ?_
  refine wot_nil ?_
  refine wct_if_seq (by rfl) (by rfl) (fun c1 => ?_) (fun c1 => ?_)
  · (refine wct_skip_seq ?_; refine wct_block_sq ?_)
    try simp only [Int.toNat_natCast] at c1
    refine wct_region_seq (by simp) ?_
    refine wot_o rfl (opt_assign_c (by rfl)) (by rfl) (by rfl) (by rfl) ?_
    refine wot_nil ?_
    refine wct_loop12 (fun (b : Nat) (cs : List Bool) => b ≤ c.b.length ∧ cs = (List.range b).foldl (reachS c) bs ∧ cs.length = c.b.length) (fun (b : Nat) (cs : List Bool) => [(1, .fp false (cls c) 0), (3, .own 0 0 1 0 c.b.length c.b.length), (4, ti (k : Int)), (5, ti (b : Int))]) (fun (b : Nat) (cs : List Bool) => [rl 0 4 cs]) (fun (b : Nat) (cs : List Bool) => c.b.length - b) 0 bs (by exact ⟨rfl, rfl, rfl, rfl, trivial⟩) (by rfl) ?_ ?_
    · exact ⟨by omega, rfl, by omega⟩
    rintro b cs ⟨h4, h5, h6⟩
    (refine wct_assoc ?_)
    refine wct_region_seq (by simp) ?_
    refine wot_o rfl (opt_move (by rfl) (by rfl)) (by rfl) (by rfl) (by rfl) ?_
    refine wot_o rfl (by exact opt_fieldAddr_fp (by rfl) (by rfl)) (by rfl) (by rfl) (by rfl) ?_
    refine wot_o rfl (by exact opt_load_fp_1 (by rfl) (by rfl) (by rfl)) (by rfl) (by rfl) (by rfl) ?_
    refine wot_o rfl (by exact opt_len_fz (by rfl) (by rfl) (by rfl)) (by rfl) (by rfl) (by rfl) ?_
    refine wot_o rfl (opt_cmp (by rfl) (by rfl) (by rfl) (by rfl) (by rfl)) (by rfl) (by rfl) (by rfl) ?_
    refine wot_nil ?_
    refine wct_if_seq (by rfl) (by rfl) (fun c2 => ?_) (fun c2 => ?_)
    · (refine wct_skip_seq ?_; refine wct_block_sq ?_)
      try simp only [Int.toNat_natCast] at c2
      refine wct_region_seq (by simp) ?_
      refine wot_o rfl (by exact opt_fieldAddr_fp (by rfl) (by rfl)) (by rfl) (by rfl) (by rfl) ?_
      refine wot_o rfl (by exact opt_load_fp_1 (by rfl) (by rfl) (by rfl)) (by rfl) (by rfl) (by rfl) ?_
      refine wot_o rfl (opt_move (by rfl) (by rfl)) (by rfl) (by rfl) (by rfl) ?_
      refine wot_o rfl (by exact opt_index_lstN (by rfl) (by rfl) (by rfl) (by rfl) (by omega) (by rfl)) (by rfl) (by rfl) (by rfl) ?_
      refine wot_o rfl (by exact opt_fieldAddr_fp (by rfl) (by rfl)) (by rfl) (by rfl) (by rfl) ?_
      refine wot_o (x := Enc.tv (at' c.b b).t) rfl (opt_as (by exact opt_load_fp_a (by rfl) (by rfl) (by rfl)) (by rfl)) (by rfl) (by rfl) (by rfl) ?_
      refine wot_c hTb rfl (call_bin (by rfl) (by rfl)) (by refine Drs.cons (by exact Dr.cl (by exact Enc.cl _)) ?_; exact Drs.nil) (pu64) (by exact lst_cl _) (by rfl) (by rfl) (by rfl) ?_
      refine wot_o rfl (opt_assign (by rfl) (by rfl)) (by rfl) (by rfl) (by rfl) ?_
      refine wot_nil ?_
      refine wct_region_seq (by simp) ?_
      refine wot_o rfl (opt_assign_c (by rfl)) (by rfl) (by rfl) (by rfl) ?_
      refine wot_nil ?_
      have hs := succT_len (at' c.b b).t
      refine wct_loop12 (fun (i : Nat) (ds : List Bool) => i ≤ (succT (at' c.b b).t).length ∧ ds = ((succT (at' c.b b).t).take i).foldl (fun o s => if at' o b then o.set s.toNat true else o) cs ∧ ds.length = c.b.length) (fun (i : Nat) (ds : List Bool) => [(1, .fp false (cls c) 0), (3, .own 0 0 1 0 c.b.length c.b.length), (4, ti (k : Int)), (5, ti (b : Int)), (6, lst false (succT (at' c.b b).t)), (7, ti (i : Int))]) (fun (i : Nat) (ds : List Bool) => [rl 0 4 ds]) (fun (i : Nat) (ds : List Bool) => (succT (at' c.b b).t).length - i) 0 cs (by exact ⟨rfl, rfl, rfl, rfl, rfl, rfl, trivial⟩) (by rfl) ?_ ?_
      · exact ⟨by omega, rfl, by omega⟩
      rintro i ds ⟨h7, h8, h9⟩
      (refine wct_assoc ?_)
      refine wct_region_seq (by simp) ?_
      refine wot_o rfl (opt_move (by rfl) (by rfl)) (by rfl) (by rfl) (by rfl) ?_
      refine wot_o rfl (opt_move (by rfl) (by rfl)) (by rfl) (by rfl) (by rfl) ?_
      refine wot_o rfl (by exact opt_len_fz (by rfl) (by rfl) (by rfl)) (by rfl) (by rfl) (by rfl) ?_
      refine wot_o rfl (opt_cmp (by rfl) (by rfl) (by rfl) (by rfl) (by rfl)) (by rfl) (by rfl) (by rfl) ?_
      refine wot_o rfl (opt_move (by rfl) (by rfl)) (by rfl) (by rfl) (by rfl) ?_
      refine wot_split (d := 39) (by rfl) (fun g5 => ?_) (fun g5 => ?_)
      · refine wot_og rfl (opt_move (by rfl) (by rfl)) (by rfl) (by rfl) (by rfl) (by rfl) (by rfl) (by rfl) ?_
        refine wot_og rfl (opt_move (by rfl) (by rfl)) (by rfl) (by rfl) (by rfl) (by rfl) (by rfl) (by rfl) ?_
        refine wot_og rfl (by exact opt_index_lN (by rfl) (by rfl) (by rfl) (by rfl) (by rfl) (by omega)) (by rfl) (by rfl) (by rfl) (by rfl) (by rfl) (by rfl) ?_
        refine wot_og rfl (by exact opt_load_l1 (by rfl) (by rfl) (by rfl) (by omega) (by rfl) (by rfl)) (by rfl) (by rfl) (by rfl) (by rfl) (by rfl) (by rfl) ?_
        refine wot_o rfl (by exact opt_pick_t (by rfl) (by rfl) (by rfl) (by rfl) (by rfl) (by rfl) (by rfl)) (by rfl) (by rfl) (by rfl) ?_
        refine wot_nil ?_
        refine wct_ifb_seq (by rfl) (by rfl) (fun c3 => ?_) (fun c3 => ?_)
        · (refine wct_skip_seq ?_; refine wct_block_rg ?_)
          try simp only [Int.toNat_natCast] at c3
          have hto := hf.to _ (at_mem' (xs := c.b) (k := b) (by omega)) _ (at_mem (xs := succT (at' c.b b).t) (k := i) (by omega))
          refine wct_region (by simp) ?_
          refine wot_o rfl (opt_move (by rfl) (by rfl)) (by rfl) (by rfl) (by rfl) ?_
          refine wot_o rfl (opt_move (by rfl) (by rfl)) (by rfl) (by rfl) (by rfl) ?_
          refine wot_o rfl (opt_move (by rfl) (by rfl)) (by rfl) (by rfl) (by rfl) ?_
          refine wot_o rfl (by exact opt_index_lstN (by rfl) (by rfl) (by rfl) (by rfl) (by omega) (by rfl)) (by rfl) (by rfl) (by rfl) ?_
          refine wot_o rfl (by exact opt_load_fp_1 (by rfl) (by rfl) (by rfl)) (by rfl) (by rfl) (by rfl) ?_
          refine wot_o rfl (by exact opt_index_l (by rfl) (by rfl) (by rfl) (by rfl) (by rfl) (by omega) (by omega)) (by rfl) (by rfl) (by rfl) ?_
          refine wot_of0 rfl (by exact opt_store_l (by rfl) (by rfl) (by rfl) (by rfl) (by rfl) (by trivial) (by rfl) (by omega) (by rfl) (by rfl)) (EffOk.pure hX) (by rfl) (by rfl) ?_
          refine wot_nil ?_
          (refine qbt_normal ?_; refine qst_wct ?_)
          refine wct_region (by simp) ?_
          refine wot_o rfl (opt_move (by rfl) (by rfl)) (by rfl) (by rfl) (by rfl) ?_
          refine wot_o rfl (opt_add (by rfl) (by rfl) (by rfl) (by rfl) (by constructor <;> omega)) (by rfl) (by rfl) (by rfl) ?_
          refine wot_o rfl (opt_assign (by rfl) (by rfl)) (by rfl) (by rfl) (by rfl) ?_
          refine wot_nil ?_
          (refine qst_loop ?_)
          refine rnd (i + 1, ds.set (at' (succT (at' c.b b).t) i).toNat true) (by (try simp only); omega) ?_ (by exact ⟨rfl, rfl, rfl, rfl, rfl, rfl, trivial⟩) (by rfl)
          try dsimp only
          refine ⟨by omega, ?_, by simp; omega⟩
          rw [take_succ (by omega), List.foldl_append, ← h8]
          simp [c3]
        · (refine wct_exit_seq ?_; refine qst_exit ?_; refine qbt_same ?_; refine qbt_normal ?_; refine qst_wct ?_)
          try simp only [Int.toNat_natCast] at c3
          refine wct_region (by simp) ?_
          refine wot_o rfl (opt_move (by rfl) (by rfl)) (by rfl) (by rfl) (by rfl) ?_
          refine wot_o rfl (opt_add (by rfl) (by rfl) (by rfl) (by rfl) (by constructor <;> omega)) (by rfl) (by rfl) (by rfl) ?_
          refine wot_o rfl (opt_assign (by rfl) (by rfl)) (by rfl) (by rfl) (by rfl) ?_
          refine wot_nil ?_
          (refine qst_loop ?_)
          refine rnd (b + 1, ds) (by (try simp only); omega) ?_ (by exact ⟨rfl, rfl, rfl, rfl, trivial⟩) (by rfl)
          try dsimp only
          refine ⟨by omega, ?_, by omega⟩
          rw [List.range_succ, List.foldl_append, ← h5]
          show ds = reachS c cs b
          have e : succT (at' c.b b).t = (succT (at' c.b b).t).take i ++ (succT (at' c.b b).t).drop i := (List.take_append_drop _ _).symm
          rw [reachS, e, List.foldl_append, ← h8, stop_fold c3]
      · refine wot_sg (by rfl) (by rfl) (by rfl) (by rfl) (by rfl) (by rfl) ?_
        refine wot_sg (by rfl) (by rfl) (by rfl) (by rfl) (by rfl) (by rfl) ?_
        refine wot_sg (by rfl) (by rfl) (by rfl) (by rfl) (by rfl) (by rfl) ?_
        refine wot_sg (by rfl) (by rfl) (by rfl) (by rfl) (by rfl) (by rfl) ?_
        refine wot_o rfl (by exact opt_pick_f (by rfl) (by rfl) (by rfl) (by rfl) (by rfl) (by rfl) (by rfl)) (by rfl) (by rfl) (by rfl) ?_
        refine wot_nil ?_
        refine wct_ff_seq (by rfl) (by rfl) ?_
        (refine wct_exit_seq ?_; refine qst_exit ?_; refine qbt_same ?_; refine qbt_normal ?_; refine qst_wct ?_)
        refine wct_region (by simp) ?_
        refine wot_o rfl (opt_move (by rfl) (by rfl)) (by rfl) (by rfl) (by rfl) ?_
        refine wot_o rfl (opt_add (by rfl) (by rfl) (by rfl) (by rfl) (by constructor <;> omega)) (by rfl) (by rfl) (by rfl) ?_
        refine wot_o rfl (opt_assign (by rfl) (by rfl)) (by rfl) (by rfl) (by rfl) ?_
        refine wot_nil ?_
        (refine qst_loop ?_)
        refine rnd (b + 1, ds) (by (try simp only); omega) ?_ (by exact ⟨rfl, rfl, rfl, rfl, trivial⟩) (by rfl)
        try dsimp only
        refine ⟨by omega, ?_, by omega⟩
        rw [List.range_succ, List.foldl_append, ← h5]
        show ds = reachS c cs b
        rw [h8, List.take_of_length_le (by omega)]; rfl
    · (refine wct_exit_seq ?_; refine qst_exit ?_; refine qbt_same ?_; refine qbt_normal ?_; refine qst_wct ?_)
      try simp only [Int.toNat_natCast] at c2
      refine wct_region (by simp) ?_
      refine wot_o rfl (opt_move (by rfl) (by rfl)) (by rfl) (by rfl) (by rfl) ?_
      refine wot_o rfl (opt_add (by rfl) (by rfl) (by rfl) (by rfl) (by constructor <;> omega)) (by rfl) (by rfl) (by rfl) ?_
      refine wot_o rfl (opt_assign (by rfl) (by rfl)) (by rfl) (by rfl) (by rfl) ?_
      refine wot_nil ?_
      (refine qst_loop ?_)
      refine rnd (k + 1, cs) (by (try simp only); omega) ?_ (by exact ⟨rfl, rfl, rfl, trivial⟩) (by rfl)
      try dsimp only
      refine ⟨by omega, ?_, by omega⟩
      have e : b = c.b.length := by omega
      rw [List.range_succ, List.foldl_append, ← h2, h5, e]; rfl
  · (refine wct_exit_seq ?_; refine qst_exit ?_; refine qbt_same ?_; refine qst_wct ?_)
    try simp only [Int.toNat_natCast] at c1
    refine wct_region_seq (by simp) ?_
    refine wot_o rfl (opt_move (by rfl) (by rfl)) (by rfl) (by rfl) (by rfl) ?_
    refine wot_o rfl (opt_assign (by rfl) (by rfl)) (by rfl) (by rfl) (by rfl) ?_
    refine wot_nil ?_
    (refine wct_ret ?_)
    refine fin_1 (by simp) rfl (by rfl) (by exact dr_ow (by rfl) (by omega) (by rfl) (by omega) (by exact Nat.le_refl _)) ?_
    have e : k = c.b.length := by omega
    rw [h2, e]; rfl
def at15 (c : Code) (x : Live) (b i : Int) : List Int := if b < 0 ∨ b ≥ c.b.length ∨ i < 0 ∨ i > (at' c.b b.toNat).i.length then [] else atI (at' c.b b.toNat).i (at' x.out b.toNat) i.toNat
theorem pu13 {a b : Live} : Pu Tryd.prog 13 [Enc.tv a, Enc.tv b] (Eq (tb (decide (a.in_ = b.in_ ∧ a.out = b.out)))) := by
  refine pu_fn fn13 (by rfl) (by rfl) (by rfl) fun X hX hTb => ?_
  refine wct_region_seq (by simp) ?_
  refine wot_o rfl (opt_box_fz (by rfl) (by rfl) (by trivial)) (by rfl) (by rfl) (by rfl) ?_
  refine wot_o rfl (opt_box_fz (by rfl) (by rfl) (by trivial)) (by rfl) (by rfl) (by rfl) ?_
  refine wot_o rfl (opt_assign_c (by rfl)) (by rfl) (by rfl) (by rfl) ?_
  refine wot_nil ?_
  (refine wct_assoc ?_)
  refine wct_region_seq (by simp) ?_
  refine wot_o rfl (by exact opt_fieldAddr_fp (by rfl) (by rfl)) (by rfl) (by rfl) (by rfl) ?_
  refine wot_o rfl (by exact opt_load_fp_1 (by rfl) (by rfl) (by rfl)) (by rfl) (by rfl) (by rfl) ?_
  refine wot_o rfl (by exact opt_len_fz (by rfl) (by rfl) (by rfl)) (by rfl) (by rfl) (by rfl) ?_
  refine wot_o rfl (by exact opt_fieldAddr_fp (by rfl) (by rfl)) (by rfl) (by rfl) (by rfl) ?_
  refine wot_o rfl (by exact opt_load_fp_1 (by rfl) (by rfl) (by rfl)) (by rfl) (by rfl) (by rfl) ?_
  refine wot_o rfl (by exact opt_len_fz (by rfl) (by rfl) (by rfl)) (by rfl) (by rfl) (by rfl) ?_
  refine wot_o rfl (opt_cmp (by rfl) (by rfl) (by rfl) (by rfl) (by rfl)) (by rfl) (by rfl) (by rfl) ?_
  refine wot_o rfl (opt_move (by rfl) (by rfl)) (by rfl) (by rfl) (by rfl) ?_
  refine wot_split (d := 14) (by rfl) (fun g8 => ?_) (fun g8 => ?_)
  · refine wot_sg (by rfl) (by rfl) (by rfl) (by rfl) (by rfl) (by rfl) ?_
    refine wot_sg (by rfl) (by rfl) (by rfl) (by rfl) (by rfl) (by rfl) ?_
    refine wot_sg (by rfl) (by rfl) (by rfl) (by rfl) (by rfl) (by rfl) ?_
    refine wot_sg (by rfl) (by rfl) (by rfl) (by rfl) (by rfl) (by rfl) ?_
    refine wot_sg (by rfl) (by rfl) (by rfl) (by rfl) (by rfl) (by rfl) ?_
    refine wot_sg (by rfl) (by rfl) (by rfl) (by rfl) (by rfl) (by rfl) ?_
    refine wot_sg (by rfl) (by rfl) (by rfl) (by rfl) (by rfl) (by rfl) ?_
    refine wot_o rfl (by exact opt_pick_t (by rfl) (by rfl) (by rfl) (by rfl) (by rfl) (by rfl) (by rfl)) (by rfl) (by rfl) (by rfl) ?_
    refine wot_nil ?_
    refine wct_tt_seq (by rfl) (by rfl) ?_
    (refine wct_assoc ?_)
    refine wct_region_seq (by simp) ?_
    refine wot_o rfl (opt_assign_c (by rfl)) (by rfl) (by rfl) (by rfl) ?_
    refine wot_nil ?_
    (refine wct_ret_seq ?_)
    refine fin_1c (by simp) rfl (by rfl) (by exact Cl.v _) ?_
    have : ¬ (a.in_ = b.in_ ∧ a.out = b.out) := by rintro ⟨h, _⟩; rw [h] at g8; exact g8 rfl
    simp [this]
  · refine wot_og rfl (by exact opt_fieldAddr_fp (by rfl) (by rfl)) (by rfl) (by rfl) (by rfl) (by rfl) (by rfl) (by rfl) ?_
    refine wot_og rfl (by exact opt_load_fp_1 (by rfl) (by rfl) (by rfl)) (by rfl) (by rfl) (by rfl) (by rfl) (by rfl) (by rfl) ?_
    refine wot_og rfl (by exact opt_len_fz (by rfl) (by rfl) (by rfl)) (by rfl) (by rfl) (by rfl) (by rfl) (by rfl) (by rfl) ?_
    refine wot_og rfl (by exact opt_fieldAddr_fp (by rfl) (by rfl)) (by rfl) (by rfl) (by rfl) (by rfl) (by rfl) (by rfl) ?_
    refine wot_og rfl (by exact opt_load_fp_1 (by rfl) (by rfl) (by rfl)) (by rfl) (by rfl) (by rfl) (by rfl) (by rfl) (by rfl) ?_
    refine wot_og rfl (by exact opt_len_fz (by rfl) (by rfl) (by rfl)) (by rfl) (by rfl) (by rfl) (by rfl) (by rfl) (by rfl) ?_
    refine wot_og rfl (opt_cmp (by rfl) (by rfl) (by rfl) (by rfl) (by rfl)) (by rfl) (by rfl) (by rfl) (by rfl) (by rfl) (by rfl) ?_
    refine wot_o rfl (by exact opt_pick_f (by rfl) (by rfl) (by rfl) (by rfl) (by rfl) (by rfl) (by rfl)) (by rfl) (by rfl) (by rfl) ?_
    refine wot_nil ?_
    refine wct_if_seq (by rfl) (by rfl) (fun c1 => ?_) (fun c1 => ?_)
    · (refine wct_assoc ?_)
      try simp only [Int.toNat_natCast] at c1
      refine wct_region_seq (by simp) ?_
      refine wot_o rfl (opt_assign_c (by rfl)) (by rfl) (by rfl) (by rfl) ?_
      refine wot_nil ?_
      (refine wct_ret_seq ?_)
      refine fin_1c (by simp) rfl (by rfl) (by exact Cl.v _) ?_
      have : ¬ (a.in_ = b.in_ ∧ a.out = b.out) := by rintro ⟨_, h⟩; rw [h] at c1; exact c1 rfl
      simp [this]
    · (refine wct_skip_seq ?_; refine wct_assoc ?_)
      try simp only [Int.toNat_natCast] at c1
      refine wct_region_seq (by simp) ?_
      refine wot_o rfl (opt_assign_c (by rfl)) (by rfl) (by rfl) (by rfl) ?_
      refine wot_nil ?_
      refine wct_fact (f_len (d := 8) rfl) fun hl => ?_
      refine wct_fact (f_len (d := 16) rfl) fun hl2 => ?_
      refine wct_loop_seq (fun (k : Nat) => k ≤ a.in_.length ∧ a.in_.take k = b.in_.take k) (fun (k : Nat) => [(2, .fp false (cls a) 0), (3, .fp false (cls b) 0), (5, ti (k : Int))]) (fun (k : Nat) => []) (fun (k : Nat) => a.in_.length - k) 0 (by exact ⟨rfl, rfl, rfl, trivial⟩) (by rfl) ?_ ?_
      · simp
      rintro k ⟨hk, hn⟩
      (refine wct_assoc ?_)
      refine wct_region_seq (by simp) ?_
      refine wot_o rfl (opt_move (by rfl) (by rfl)) (by rfl) (by rfl) (by rfl) ?_
      refine wot_o rfl (by exact opt_fieldAddr_fp (by rfl) (by rfl)) (by rfl) (by rfl) (by rfl) ?_
      refine wot_o rfl (by exact opt_load_fp_1 (by rfl) (by rfl) (by rfl)) (by rfl) (by rfl) (by rfl) ?_
      refine wot_o rfl (by exact opt_len_fz (by rfl) (by rfl) (by rfl)) (by rfl) (by rfl) (by rfl) ?_
      refine wot_o rfl (opt_cmp (by rfl) (by rfl) (by rfl) (by rfl) (by rfl)) (by rfl) (by rfl) (by rfl) ?_
      refine wot_nil ?_
      refine wct_if_seq (by rfl) (by rfl) (fun c2 => ?_) (fun c2 => ?_)
      · (refine wct_skip_seq ?_; refine wct_block_sq ?_)
        try simp only [Int.toNat_natCast] at c2
        refine wct_draw_seq (by kernel_rfl) (u := []) (by kernel_rfl) ?_
        refine wtt_o rfl (by exact opt_fieldAddr_fp (by rfl) (by rfl)) (by rfl) (by rfl) (by rfl) ?_
        refine wtt_o rfl (by exact opt_load_fp_1 (by rfl) (by rfl) (by rfl)) (by rfl) (by rfl) (by rfl) ?_
        refine wtt_o rfl (opt_move (by rfl) (by rfl)) (by rfl) (by rfl) (by rfl) ?_
        refine wtt_o rfl (by exact opt_index_lstN (by rfl) (by rfl) (by rfl) (by rfl) (by omega) (by rfl)) (by rfl) (by rfl) (by rfl) ?_
        refine wtt_o rfl (by exact opt_load_fp_1 (by rfl) (by rfl) (by rfl)) (by rfl) (by rfl) (by rfl) ?_
        refine wtt_o rfl (by exact opt_fieldAddr_fp (by rfl) (by rfl)) (by rfl) (by rfl) (by rfl) ?_
        refine wtt_o rfl (by exact opt_load_fp_1 (by rfl) (by rfl) (by rfl)) (by rfl) (by rfl) (by rfl) ?_
        refine wtt_o rfl (opt_move (by rfl) (by rfl)) (by rfl) (by rfl) (by rfl) ?_
        refine wtt_o rfl (by exact opt_index_lstN (by rfl) (by rfl) (by rfl) (by rfl) (by omega) (by rfl)) (by rfl) (by rfl) (by rfl) ?_
        refine wtt_o rfl (by exact opt_load_fp_1 (by rfl) (by rfl) (by rfl)) (by rfl) (by rfl) (by rfl) ?_
        refine wtt_c hTb rfl (call_bin (by rfl) (by rfl)) (by refine Drs.cons (by exact Dr.cl (by exact lst_cl _)) ?_; refine Drs.cons (by exact Dr.cl (by exact lst_cl _)) ?_; exact Drs.nil) (pu21) (by exact Cl.v _) (by rfl) (by rfl) (by rfl) ?_
        refine wtt_o rfl (opt_not (by rfl) (by rfl)) (by rfl) (by rfl) (by rfl) ?_
        refine wtt_nil ?_
        refine ⟨trivial, ?_⟩
        refine wct_ifb (by rfl) (by rfl) (fun c3 => ?_) (fun c3 => ?_)
        · (skip)
          try simp only [Int.toNat_natCast] at c3
          refine wct_region_seq (by simp) ?_
          refine wot_o rfl (opt_assign_c (by rfl)) (by rfl) (by rfl) (by rfl) ?_
          refine wot_nil ?_
          (refine wct_ret ?_; refine qbt_ret ?_; refine qst_ret ?_; refine qst_ret ?_; refine qbt_ret ?_; refine qst_ret ?_)
          refine fin_1c (by simp) rfl (by rfl) (by exact Cl.v _) ?_
          have : ¬ (a.in_ = b.in_ ∧ a.out = b.out) := by rintro ⟨h, _⟩; rw [h] at c3; simp at c3
          simp [this]
        · (refine wct_skip ?_; refine qbt_normal ?_; refine qst_wct ?_)
          try simp only [Int.toNat_natCast] at c3
          refine wct_region (by simp) ?_
          refine wot_o rfl (opt_move (by rfl) (by rfl)) (by rfl) (by rfl) (by rfl) ?_
          refine wot_o rfl (opt_add (by rfl) (by rfl) (by rfl) (by rfl) (by constructor <;> omega)) (by rfl) (by rfl) (by rfl) ?_
          refine wot_o rfl (opt_assign (by rfl) (by rfl)) (by rfl) (by rfl) (by rfl) ?_
          refine wot_nil ?_
          (refine qst_loop ?_)
          refine rnd (k + 1) (by (try simp only); omega) ?_ (by exact ⟨rfl, rfl, rfl, trivial⟩) (by rfl)
          try dsimp only
          refine ⟨by omega, ?_⟩
          have e : at' a.in_ k = at' b.in_ k := by simpa using c3
          rw [take_succ (by omega), take_succ (by omega), hn, e]
      · (refine wct_exit_seq ?_; refine wct_assoc ?_)
        try simp only [Int.toNat_natCast] at c2
        refine wct_region_seq (by simp) ?_
        refine wot_o rfl (opt_assign_c (by rfl)) (by rfl) (by rfl) (by rfl) ?_
        refine wot_nil ?_
        refine wct_loop_seq (fun (k : Nat) => k ≤ a.out.length ∧ a.out.take k = b.out.take k) (fun (k : Nat) => [(2, .fp false (cls a) 0), (3, .fp false (cls b) 0), (6, ti (k : Int))]) (fun (k : Nat) => []) (fun (k : Nat) => a.out.length - k) 0 (by exact ⟨rfl, rfl, rfl, trivial⟩) (by rfl) ?_ ?_
        · simp
        rintro k ⟨hk2, hn2⟩
        (refine wct_assoc ?_)
        refine wct_region_seq (by simp) ?_
        refine wot_o rfl (opt_move (by rfl) (by rfl)) (by rfl) (by rfl) (by rfl) ?_
        refine wot_o rfl (by exact opt_fieldAddr_fp (by rfl) (by rfl)) (by rfl) (by rfl) (by rfl) ?_
        refine wot_o rfl (by exact opt_load_fp_1 (by rfl) (by rfl) (by rfl)) (by rfl) (by rfl) (by rfl) ?_
        refine wot_o rfl (by exact opt_len_fz (by rfl) (by rfl) (by rfl)) (by rfl) (by rfl) (by rfl) ?_
        refine wot_o rfl (opt_cmp (by rfl) (by rfl) (by rfl) (by rfl) (by rfl)) (by rfl) (by rfl) (by rfl) ?_
        refine wot_nil ?_
        refine wct_if_seq (by rfl) (by rfl) (fun c4 => ?_) (fun c4 => ?_)
        · (refine wct_skip_seq ?_; refine wct_block_sq ?_)
          try simp only [Int.toNat_natCast] at c4
          refine wct_draw_seq (by kernel_rfl) (u := []) (by kernel_rfl) ?_
          refine wtt_o rfl (by exact opt_fieldAddr_fp (by rfl) (by rfl)) (by rfl) (by rfl) (by rfl) ?_
          refine wtt_o rfl (by exact opt_load_fp_1 (by rfl) (by rfl) (by rfl)) (by rfl) (by rfl) (by rfl) ?_
          refine wtt_o rfl (opt_move (by rfl) (by rfl)) (by rfl) (by rfl) (by rfl) ?_
          refine wtt_o rfl (by exact opt_index_lstN (by rfl) (by rfl) (by rfl) (by rfl) (by omega) (by rfl)) (by rfl) (by rfl) (by rfl) ?_
          refine wtt_o rfl (by exact opt_load_fp_1 (by rfl) (by rfl) (by rfl)) (by rfl) (by rfl) (by rfl) ?_
          refine wtt_o rfl (by exact opt_fieldAddr_fp (by rfl) (by rfl)) (by rfl) (by rfl) (by rfl) ?_
          refine wtt_o rfl (by exact opt_load_fp_1 (by rfl) (by rfl) (by rfl)) (by rfl) (by rfl) (by rfl) ?_
          refine wtt_o rfl (opt_move (by rfl) (by rfl)) (by rfl) (by rfl) (by rfl) ?_
          refine wtt_o rfl (by exact opt_index_lstN (by rfl) (by rfl) (by rfl) (by rfl) (by omega) (by rfl)) (by rfl) (by rfl) (by rfl) ?_
          refine wtt_o rfl (by exact opt_load_fp_1 (by rfl) (by rfl) (by rfl)) (by rfl) (by rfl) (by rfl) ?_
          refine wtt_c hTb rfl (call_bin (by rfl) (by rfl)) (by refine Drs.cons (by exact Dr.cl (by exact lst_cl _)) ?_; refine Drs.cons (by exact Dr.cl (by exact lst_cl _)) ?_; exact Drs.nil) (pu21) (by exact Cl.v _) (by rfl) (by rfl) (by rfl) ?_
          refine wtt_o rfl (opt_not (by rfl) (by rfl)) (by rfl) (by rfl) (by rfl) ?_
          refine wtt_nil ?_
          refine ⟨trivial, ?_⟩
          refine wct_ifb (by rfl) (by rfl) (fun c5 => ?_) (fun c5 => ?_)
          · (skip)
            try simp only [Int.toNat_natCast] at c5
            refine wct_region_seq (by simp) ?_
            refine wot_o rfl (opt_assign_c (by rfl)) (by rfl) (by rfl) (by rfl) ?_
            refine wot_nil ?_
            (refine wct_ret ?_; refine qbt_ret ?_; refine qst_ret ?_; refine qst_ret ?_; refine qbt_ret ?_; refine qst_ret ?_)
            refine fin_1c (by simp) rfl (by rfl) (by exact Cl.v _) ?_
            have : ¬ (a.in_ = b.in_ ∧ a.out = b.out) := by rintro ⟨_, h⟩; rw [h] at c5; simp at c5
            simp [this]
          · (refine wct_skip ?_; refine qbt_normal ?_; refine qst_wct ?_)
            try simp only [Int.toNat_natCast] at c5
            refine wct_region (by simp) ?_
            refine wot_o rfl (opt_move (by rfl) (by rfl)) (by rfl) (by rfl) (by rfl) ?_
            refine wot_o rfl (opt_add (by rfl) (by rfl) (by rfl) (by rfl) (by constructor <;> omega)) (by rfl) (by rfl) (by rfl) ?_
            refine wot_o rfl (opt_assign (by rfl) (by rfl)) (by rfl) (by rfl) (by rfl) ?_
            refine wot_nil ?_
            (refine qst_loop ?_)
            refine rnd (k + 1) (by (try simp only); omega) ?_ (by exact ⟨rfl, rfl, rfl, trivial⟩) (by rfl)
            try dsimp only
            refine ⟨by omega, ?_⟩
            have e : at' a.out k = at' b.out k := by simpa using c5
            rw [take_succ (by omega), take_succ (by omega), hn2, e]
        · (refine wct_exit_seq ?_; refine qst_exit ?_; refine qbt_same ?_; refine qst_wct ?_)
          try simp only [Int.toNat_natCast] at c4
          refine wct_region_seq (by simp) ?_
          refine wot_o rfl (opt_assign_c (by rfl)) (by rfl) (by rfl) (by rfl) ?_
          refine wot_nil ?_
          (refine wct_ret ?_)
          refine fin_1c (by simp) rfl (by rfl) (by exact Cl.v _) ?_
          rw [take_all hk c2, List.take_of_length_le (by omega)] at hn
          rw [take_all hk2 c4, List.take_of_length_le (by omega)] at hn2
          simp [hn, hn2]
end Go.Ab
