/- The road to a card of this seat: G30. Each theorem holds for every input that its own premises speak of. -/
import Derived.Test.YtaaeeiheeihjaaaDoorG28
import Derived.Test.YtaaeeiheeihjaaaDoorP2
import Derived.Test.YtaaeeiheeihjaaaDoorG29
import Derived.Test.YtaaeeiheeihjaaaDoorBLiveDefined
set_option linter.all false
namespace Go.Ab
open Go.Proofs
def usedL (l : List Inst) (n : Int) : Prop := ∃ i ∈ l, n ∈ usesI i
instance (l : List Inst) (n : Int) : Decidable (usedL l n) := by unfold usedL; infer_instance
theorem pu29 {t : Bool} {l : List Inst} {n : Int} : Pu Tryd.prog 29 [lst t l, ti n] (Eq (tb (decide (usedL l n)))) := by
  refine pu_fn fn29 (by rfl) (by rfl) (by rfl) fun X hX hTb => ?_
  refine wct_region_seq (by simp) ?_
  refine wot_o rfl (opt_assign_c (by rfl)) (by rfl) (by rfl) (by rfl) ?_
  refine wot_nil ?_
  (refine wct_assoc ?_)
  refine wct_region_seq (by simp) ?_
  refine wot_o rfl (opt_assign_c (by rfl)) (by rfl) (by rfl) (by rfl) ?_
  refine wot_nil ?_
  refine wct_fact (f_len (d := 0) rfl) fun hl => ?_
  refine wct_loop_seq (fun (k : Nat) => k ≤ l.length ∧ ∀ i ∈ l.take k, n ∉ usesI i) (fun (k : Nat) => [(0, lst t l), (1, ti n), (5, ti (k : Int))]) (fun (k : Nat) => []) (fun (k : Nat) => l.length - k) 0 (by exact ⟨rfl, rfl, rfl, trivial⟩) (by rfl) ?_ ?_
  · exact ⟨Nat.zero_le _, by simp⟩
  rintro k ⟨hk, hn⟩
  (refine wct_assoc ?_)
  refine wct_region_seq (by simp) ?_
  refine wot_o rfl (opt_move (by rfl) (by rfl)) (by rfl) (by rfl) (by rfl) ?_
  refine wot_o rfl (opt_move (by rfl) (by rfl)) (by rfl) (by rfl) (by rfl) ?_
  refine wot_o rfl (by exact opt_len_fz (by rfl) (by rfl) (by rfl)) (by rfl) (by rfl) (by rfl) ?_
  refine wot_o rfl (opt_cmp (by rfl) (by rfl) (by rfl) (by rfl) (by rfl)) (by rfl) (by rfl) (by rfl) ?_
  refine wot_nil ?_
  refine wct_if_seq (by rfl) (by rfl) (fun c1 => ?_) (fun c1 => ?_)
  · (refine wct_skip_seq ?_; refine wct_block_sq ?_)
    try simp only [Int.toNat_natCast] at c1
    refine wct_region_seq (by simp) ?_
    refine wot_o rfl (opt_move (by rfl) (by rfl)) (by rfl) (by rfl) (by rfl) ?_
    refine wot_o rfl (opt_move (by rfl) (by rfl)) (by rfl) (by rfl) (by rfl) ?_
    refine wot_o rfl (by exact opt_index_lstN (by rfl) (by rfl) (by rfl) (by rfl) (by omega) (by rfl)) (by rfl) (by rfl) (by rfl) ?_
    refine wot_o (x := Enc.tv (at' l k)) rfl (opt_as (by exact opt_load_fp_row (by rfl) (by rfl) (by rfl)) (by rfl)) (by rfl) (by rfl) (by rfl) ?_
    refine wot_c hTb rfl (call_bin (by rfl) (by rfl)) (by refine Drs.cons (by exact Dr.cl (by exact Enc.cl _)) ?_; exact Drs.nil) (pu26) (by exact lst_cl _) (by rfl) (by rfl) (by rfl) ?_
    refine wot_o rfl (opt_move (by rfl) (by rfl)) (by rfl) (by rfl) (by rfl) ?_
    refine wot_c hTb rfl (call_bin (by rfl) (by rfl)) (by refine Drs.cons (by exact Dr.cl (by exact lst_cl _)) ?_; refine Drs.cons (by exact Dr.cl (by exact Cl.v _)) ?_; exact Drs.nil) (pu27) (by exact Cl.v _) (by rfl) (by rfl) (by rfl) ?_
    refine wot_nil ?_
    refine wct_if (by rfl) (by rfl) (fun c2 => ?_) (fun c2 => ?_)
    · (skip)
      try simp only [Int.toNat_natCast] at c2
      refine wct_region_seq (by simp) ?_
      refine wot_o rfl (opt_assign_c (by rfl)) (by rfl) (by rfl) (by rfl) ?_
      refine wot_nil ?_
      (refine wct_ret ?_; refine qbt_ret ?_; refine qst_ret ?_; refine qst_ret ?_; refine qbt_ret ?_; refine qst_ret ?_)
      refine fin_1c (by simp) rfl (by rfl) (by exact Cl.v _) ?_
      have : usedL l n := ⟨_, at_memG (xs := l) (k := k) (by omega), by simpa using c2⟩
      simp [this]
    · (refine wct_skip ?_; refine qbt_normal ?_; refine qst_wct ?_)
      try simp only [Int.toNat_natCast] at c2
      refine wct_region (by simp) ?_
      refine wot_o rfl (opt_move (by rfl) (by rfl)) (by rfl) (by rfl) (by rfl) ?_
      refine wot_o rfl (opt_add (by rfl) (by rfl) (by rfl) (by rfl) (by constructor <;> omega)) (by rfl) (by rfl) (by rfl) ?_
      refine wot_o rfl (opt_assign (by rfl) (by rfl)) (by rfl) (by rfl) (by rfl) ?_
      refine wot_nil ?_
      (refine qst_loop ?_)
      refine rnd (k + 1) (by (try simp only); omega) ?_ (by exact ⟨rfl, rfl, rfl, trivial⟩) (by rfl)
      try dsimp only
      refine ⟨by omega, fun i hi => ?_⟩
      rw [take_succ (by omega), List.mem_append, List.mem_singleton] at hi
      rcases hi with hi | rfl
      · exact hn i hi
      · simpa using c2
  · (refine wct_exit_seq ?_; refine qst_exit ?_; refine qbt_same ?_; refine qst_wct ?_)
    try simp only [Int.toNat_natCast] at c1
    refine wct_region_seq (by simp) ?_
    refine wot_o rfl (opt_assign_c (by rfl)) (by rfl) (by rfl) (by rfl) ?_
    refine wot_nil ?_
    (refine wct_ret ?_)
    refine fin_1c (by simp) rfl (by rfl) (by exact Cl.v _) ?_
    rw [List.take_of_length_le (by omega)] at hn
    have : ¬ usedL l n := fun ⟨i, hi, h⟩ => hn i hi h
    simp [this]
theorem pu7 {L : List U8} (hL : LOk L) : Pu Tryd.prog 7 [Enc.tv (⟨L⟩ : Raw)] (Eq (tb true)) := by
  refine pu_fn fn7 (by rfl) (by rfl) (by rfl) fun X hX hTb => ?_
  refine wct_region_seq (by simp) ?_
  refine wot_o rfl (opt_box_fz (by rfl) (by rfl) (by trivial)) (by rfl) (by rfl) (by rfl) ?_
  refine wot_o rfl (opt_assign_c (by rfl)) (by rfl) (by rfl) (by rfl) ?_
  refine wot_nil ?_
  refine wct_region_seq (by simp) ?_
  refine wot_c hTb rfl (call_bin (by rfl) (by rfl)) (by exact Drs.nil) (pu10) (by exact Cl.v _) (by rfl) (by rfl) (by rfl) ?_
  refine wot_o rfl (opt_assign (by rfl) (by rfl)) (by rfl) (by rfl) (by rfl) ?_
  refine wot_nil ?_
  (refine wct_assoc ?_)
  refine wct_region_seq (by simp) ?_
  refine wot_o rfl (opt_move (by rfl) (by rfl)) (by rfl) (by rfl) (by rfl) ?_
  refine wot_o rfl (opt_not (by rfl) (by rfl)) (by rfl) (by rfl) (by rfl) ?_
  refine wot_nil ?_
  refine wct_ifb_seq (by rfl) (by rfl) (fun c1 => ?_) (fun c1 => ?_)
  · (refine wct_assoc ?_)
    try simp only [Int.toNat_natCast] at c1
    exact absurd c1 (by decide)
  · (refine wct_skip_seq ?_)
    try simp only [Int.toNat_natCast] at c1
    refine wct_region_seq (by simp) ?_
    refine wot_o (x := Enc.tv (⟨L⟩ : Raw)) rfl (opt_as (by exact opt_load_fp_row (by rfl) (by rfl) (by rfl)) (by rfl)) (by rfl) (by rfl) (by rfl) ?_
    refine wot_ce hTb rfl (call_bin (by rfl) (by rfl)) (by refine Drs.cons (by exact Dr.cl (by exact Enc.cl _)) ?_; exact Drs.nil) (pu11 (L := L) hL) (by (rintro r ⟨x, rfl, h⟩; exact Enc.cl x)) (by rfl) (by rfl) (by rfl) ?_
    rintro r ⟨c, rfl, hf⟩
    refine wot_o rfl (opt_alloc (by rfl)) (by rfl) (by rfl) (by rfl) ?_
    refine wot_of0 rfl (by exact opt_store_row (by rfl) (by rfl) (by rfl) (by rfl) (by rfl) (by trivial) (by rfl) (by rfl) (by rfl)) (EffOk.pure hX) (by rfl) (by rfl) ?_
    refine wot_nil ?_
    refine wct_draw_seq (by kernel_rfl) (u := [(2, 1)]) (by kernel_rfl) ?_
    refine wtt_o (x := Enc.tv c) rfl (opt_as (by exact opt_load_row (by rfl) (by rfl) (by rfl) (by rfl) (by rfl)) (by rfl)) (by rfl) (by rfl) (by rfl) ?_
    refine wtt_ce hTb rfl (call_bin (by rfl) (by rfl)) (by refine Drs.cons (by exact Dr.cl (by exact Enc.cl _)) ?_; exact Drs.nil) (pu12 hf) (by (rintro r ⟨x, rfl, h⟩; exact Enc.cl x)) (by rfl) (by rfl) (by rfl) ?_
    rintro r ⟨y, rfl, hy⟩
    refine wtt_o (x := Enc.tv c) rfl (opt_as (by exact opt_load_row (by rfl) (by rfl) (by rfl) (by rfl) (by rfl)) (by rfl)) (by rfl) (by rfl) (by rfl) ?_
    refine wtt_c hTb rfl (call_bin (by rfl) (by rfl)) (by refine Drs.cons (by exact Dr.cl (by exact Enc.cl _)) ?_; exact Drs.nil) (pu25 hf) (by exact lst_cl _) (by rfl) (by rfl) (by rfl) ?_
    refine wtt_o rfl (opt_alloc (by rfl)) (by rfl) (by rfl) (by rfl) ?_
    refine wtt_of0 rfl (by exact opt_store_row (by rfl) (by rfl) (by rfl) (by rfl) (by rfl) (by trivial) (by rfl) (by rfl) (by rfl)) (EffOk.pure hX) (by rfl) (by rfl) ?_
    refine wtt_o rfl (opt_assign (by rfl) (by rfl)) (by rfl) (by rfl) (by rfl) ?_
    refine wtt_nil ?_
    refine ⟨⟨(by exact chk_pt (t := 34) (by rfl) (by rfl) (by rfl) (by rfl) (by rfl) (by rfl) (by rfl) (by rfl) (by rfl)), trivial⟩, ?_⟩
    (refine wct_assoc ?_)
    have hli := hy.li
    have hlo := hy.lo
    have hnb := hf.nb
    have hrl := reachL_len c
    refine wct_region_seq (by simp) ?_
    refine wot_o rfl (by exact opt_fieldAddr_pt (by rfl) (by rfl) (by rfl) (by rfl)) (by rfl) (by rfl) (by rfl) ?_
    refine wot_o rfl (by exact opt_load_pt_1 (by rfl) (by rfl) (by rfl) (by rfl)) (by rfl) (by rfl) (by rfl) ?_
    refine wot_o rfl (by exact opt_len_fz (by rfl) (by rfl) (by rfl)) (by rfl) (by rfl) (by rfl) ?_
    refine wot_o rfl (by exact opt_fieldAddr_pt (by rfl) (by rfl) (by rfl) (by rfl)) (by rfl) (by rfl) (by rfl) ?_
    refine wot_o rfl (by exact opt_load_pt_1 (by rfl) (by rfl) (by rfl) (by rfl)) (by rfl) (by rfl) (by rfl) ?_
    refine wot_o rfl (by exact opt_len_fz (by rfl) (by rfl) (by rfl)) (by rfl) (by rfl) (by rfl) ?_
    refine wot_o rfl (opt_cmp (by rfl) (by rfl) (by rfl) (by rfl) (by rfl)) (by rfl) (by rfl) (by rfl) ?_
    refine wot_nil ?_
    refine wct_if_seq (by rfl) (by rfl) (fun c2 => ?_) (fun c2 => ?_)
    · (refine wct_assoc ?_)
      try simp only [Int.toNat_natCast] at c2
      exact absurd c2 (by omega)
    · (refine wct_skip_seq ?_; refine wct_assoc ?_)
      try simp only [Int.toNat_natCast] at c2
      refine wct_region_seq (by simp) ?_
      refine wot_o rfl (opt_assign_c (by rfl)) (by rfl) (by rfl) (by rfl) ?_
      refine wot_nil ?_
      refine wct_loop_seq (fun (b : Nat) => b ≤ c.b.length) (fun (b : Nat) => [(3, tb true), (4, .pt 0 0 0), (5, .pt 1 0 0), (6, lst false (reachL c)), (7, ti (b : Int))]) (fun (b : Nat) => [⟨0, some (34, cls c)⟩, ⟨0, some (38, cls y)⟩]) (fun (b : Nat) => c.b.length - b) 0 (by exact ⟨rfl, rfl, rfl, rfl, rfl, trivial⟩) (by rfl) ?_ ?_
      · exact Nat.zero_le _
      rintro b hb
      (refine wct_assoc ?_)
      refine wct_region_seq (by simp) ?_
      refine wot_o rfl (opt_move (by rfl) (by rfl)) (by rfl) (by rfl) (by rfl) ?_
      refine wot_o rfl (by exact opt_fieldAddr_pt (by rfl) (by rfl) (by rfl) (by rfl)) (by rfl) (by rfl) (by rfl) ?_
      refine wot_o rfl (by exact opt_load_pt_1 (by rfl) (by rfl) (by rfl) (by rfl)) (by rfl) (by rfl) (by rfl) ?_
      refine wot_o rfl (by exact opt_len_fz (by rfl) (by rfl) (by rfl)) (by rfl) (by rfl) (by rfl) ?_
      refine wot_o rfl (opt_cmp (by rfl) (by rfl) (by rfl) (by rfl) (by rfl)) (by rfl) (by rfl) (by rfl) ?_
      refine wot_nil ?_
      refine wct_if_seq (by rfl) (by rfl) (fun c3 => ?_) (fun c3 => ?_)
      · (refine wct_skip_seq ?_; refine wct_block_sq ?_)
        try simp only [Int.toNat_natCast] at c3
        have hb1 : b < c.b.length := by omega
        have hni := hf.ni _ (at_memG (xs := c.b) (k := b) hb1)
        refine wct_region_seq (by simp) ?_
        refine wot_o rfl (opt_litO_l (([] : List Int)) (by rfl) (by rfl) (by rfl) (by rfl) (by rfl) (by rfl) (by rfl) (by rfl) (by rfl) (by rfl)) (by rfl) (by rfl) (by rfl) ?_
        refine wot_o rfl (opt_assign (by rfl) (by rfl)) (by rfl) (by rfl) (by rfl) ?_
        refine wot_nil ?_
        (refine wct_assoc ?_)
        refine wct_region_seq (by simp) ?_
        refine wot_o rfl (opt_assign_c (by rfl)) (by rfl) (by rfl) (by rfl) ?_
        refine wot_nil ?_
        refine wct_loop3 (fun (i : Nat) (g : Nat) (ds : List Int) => i ≤ (at' c.b b).i.length ∧ Done (at' c.b b).i i ds) (fun (i : Nat) (g : Nat) (ds : List Int) => [(3, tb true), (4, .pt 0 0 0), (5, .pt 1 0 0), (6, lst false (reachL c)), (7, ti (b : Int)), (8, ownl 2 g ds), (9, ti (i : Int))]) (fun (i : Nat) (g : Nat) (ds : List Int) => [⟨0, some (34, cls c)⟩, ⟨0, some (38, cls y)⟩, rl g 3 ds]) (fun (i : Nat) (g : Nat) (ds : List Int) => (at' c.b b).i.length - i) 0 0 [] (by exact ⟨rfl, rfl, rfl, rfl, rfl, rfl, rfl, trivial⟩) (by rfl) ?_ ?_
        · exact ⟨Nat.zero_le _, Done.start _⟩
        rintro i g ds ⟨hi, hD⟩
        (refine wct_assoc ?_)
        refine wct_cut1 (fun (b1 : Bool) => b1 = true → i < (at' c.b b).i.length ∧ at' (reachL c) b = true) (fun (b1 : Bool) => [(3, tb true), (4, .pt 0 0 0), (5, .pt 1 0 0), (6, lst false (reachL c)), (7, ti (b : Int)), (8, ownl 2 g ds), (9, ti (i : Int)), (51, tb b1)]) (fun (b1 : Bool) => [⟨0, some (34, cls c)⟩, ⟨0, some (38, cls y)⟩, rl g 3 ds]) ?_ ?_
        · (skip)
          refine wct_region (by simp) ?_
          refine wot_o rfl (opt_move (by rfl) (by rfl)) (by rfl) (by rfl) (by rfl) ?_
          refine wot_o rfl (by exact opt_fieldAddr_pt (by rfl) (by rfl) (by rfl) (by rfl)) (by rfl) (by rfl) (by rfl) ?_
          refine wot_o rfl (by exact opt_load_pt_1 (by rfl) (by rfl) (by rfl) (by rfl)) (by rfl) (by rfl) (by rfl) ?_
          refine wot_o rfl (opt_move (by rfl) (by rfl)) (by rfl) (by rfl) (by rfl) ?_
          refine wot_o rfl (by exact opt_index_lstN (by rfl) (by rfl) (by rfl) (by rfl) (by omega) (by rfl)) (by rfl) (by rfl) (by rfl) ?_
          refine wot_o rfl (by exact opt_fieldAddr_fp (by rfl) (by rfl)) (by rfl) (by rfl) (by rfl) ?_
          refine wot_o rfl (by exact opt_load_fp_1 (by rfl) (by rfl) (by rfl)) (by rfl) (by rfl) (by rfl) ?_
          refine wot_o rfl (by exact opt_len_fz (by rfl) (by rfl) (by rfl)) (by rfl) (by rfl) (by rfl) ?_
          refine wot_o rfl (opt_cmp (by rfl) (by rfl) (by rfl) (by rfl) (by rfl)) (by rfl) (by rfl) (by rfl) ?_
          refine wot_o rfl (opt_move (by rfl) (by rfl)) (by rfl) (by rfl) (by rfl) ?_
          refine wot_split (d := 46) (by rfl) (fun g10 => ?_) (fun g10 => ?_)
          · refine wot_og rfl (opt_move (by rfl) (by rfl)) (by rfl) (by rfl) (by rfl) (by rfl) (by rfl) (by rfl) ?_
            refine wot_og rfl (opt_move (by rfl) (by rfl)) (by rfl) (by rfl) (by rfl) (by rfl) (by rfl) (by rfl) ?_
            refine wot_og rfl (by exact opt_index_lstN (by rfl) (by rfl) (by rfl) (by rfl) (by omega) (by rfl)) (by rfl) (by rfl) (by rfl) (by rfl) (by rfl) (by rfl) ?_
            refine wot_og rfl (by exact opt_load_fp_1 (by rfl) (by rfl) (by rfl)) (by rfl) (by rfl) (by rfl) (by rfl) (by rfl) (by rfl) ?_
            refine wot_o rfl (by exact opt_pick_t (by rfl) (by rfl) (by rfl) (by rfl) (by rfl) (by rfl) (by rfl)) (by rfl) (by rfl) (by rfl) ?_
            refine wot_nil ?_
            (refine qst_cut ?_)
            refine cutmk (at' (reachL c) b) ?_ (by exact ⟨rfl, rfl, rfl, rfl, rfl, rfl, rfl, rfl, trivial⟩) (by rfl)
            try dsimp only
            intro h; exact ⟨by omega, h⟩
          · refine wot_sg (by rfl) (by rfl) (by rfl) (by rfl) (by rfl) (by rfl) ?_
            refine wot_sg (by rfl) (by rfl) (by rfl) (by rfl) (by rfl) (by rfl) ?_
            refine wot_sg (by rfl) (by rfl) (by rfl) (by rfl) (by rfl) (by rfl) ?_
            refine wot_sg (by rfl) (by rfl) (by rfl) (by rfl) (by rfl) (by rfl) ?_
            refine wot_o rfl (by exact opt_pick_f (by rfl) (by rfl) (by rfl) (by rfl) (by rfl) (by rfl) (by rfl)) (by rfl) (by rfl) (by rfl) ?_
            refine wot_nil ?_
            (refine qst_cut ?_)
            refine cutmk false ?_ (by exact ⟨rfl, rfl, rfl, rfl, rfl, rfl, rfl, rfl, trivial⟩) (by rfl)
            try dsimp only
            intro h; cases h
        rintro b1 hb1'
        refine wct_ifb_seq (by rfl) (by rfl) (fun c4 => ?_) (fun c4 => ?_)
        · (refine wct_skip_seq ?_; refine wct_block_sq ?_)
          try simp only [Int.toNat_natCast] at c4
          obtain ⟨hi1, hre⟩ := hb1' c4
          obtain ⟨hfo, hfi⟩ := hy.fx b hb1 hre
          have hdl := hD.len
          refine wct_region_seq (by simp) ?_
          refine wot_o rfl (by exact opt_fieldAddr_pt (by rfl) (by rfl) (by rfl) (by rfl)) (by rfl) (by rfl) (by rfl) ?_
          refine wot_o rfl (by exact opt_load_pt_1 (by rfl) (by rfl) (by rfl) (by rfl)) (by rfl) (by rfl) (by rfl) ?_
          refine wot_o rfl (opt_move (by rfl) (by rfl)) (by rfl) (by rfl) (by rfl) ?_
          refine wot_o rfl (by exact opt_index_lstN (by rfl) (by rfl) (by rfl) (by rfl) (by omega) (by rfl)) (by rfl) (by rfl) (by rfl) ?_
          refine wot_o rfl (by exact opt_fieldAddr_fp (by rfl) (by rfl)) (by rfl) (by rfl) (by rfl) ?_
          refine wot_o rfl (by exact opt_load_fp_1 (by rfl) (by rfl) (by rfl)) (by rfl) (by rfl) (by rfl) ?_
          refine wot_o rfl (opt_move (by rfl) (by rfl)) (by rfl) (by rfl) (by rfl) ?_
          refine wot_o rfl (by exact opt_index_lstN (by rfl) (by rfl) (by rfl) (by rfl) (by omega) (by rfl)) (by rfl) (by rfl) (by rfl) ?_
          refine wot_o (x := Enc.tv (at' (at' c.b b).i i)) rfl (opt_as (by exact opt_load_fp_row (by rfl) (by rfl) (by rfl)) (by rfl)) (by rfl) (by rfl) (by rfl) ?_
          refine wot_c hTb rfl (call_bin (by rfl) (by rfl)) (by refine Drs.cons (by exact Dr.cl (by exact Enc.cl _)) ?_; exact Drs.nil) (pu26) (by exact lst_cl _) (by rfl) (by rfl) (by rfl) ?_
          refine wot_o rfl (opt_assign (by rfl) (by rfl)) (by rfl) (by rfl) (by rfl) ?_
          refine wot_nil ?_
          (refine wct_assoc ?_)
          refine wct_region_seq (by simp) ?_
          refine wot_o rfl (opt_assign_c (by rfl)) (by rfl) (by rfl) (by rfl) ?_
          refine wot_nil ?_
          have hul := usesI_len (at' (at' c.b b).i i)
          refine wct_loop_seq (fun (k : Nat) => k ≤ (usesI (at' (at' c.b b).i i)).length) (fun (k : Nat) => [(3, tb true), (4, .pt 0 0 0), (5, .pt 1 0 0), (6, lst false (reachL c)), (7, ti (b : Int)), (8, ownl 2 g ds), (9, ti (i : Int)), (10, lst false (usesI (at' (at' c.b b).i i))), (11, ti (k : Int))]) (fun (k : Nat) => [⟨0, some (34, cls c)⟩, ⟨0, some (38, cls y)⟩, rl g 3 ds]) (fun (k : Nat) => (usesI (at' (at' c.b b).i i)).length - k) 0 (by exact ⟨rfl, rfl, rfl, rfl, rfl, rfl, rfl, rfl, rfl, trivial⟩) (by rfl) ?_ ?_
          · exact Nat.zero_le _
          rintro k hk
          (refine wct_assoc ?_)
          refine wct_region_seq (by simp) ?_
          refine wot_o rfl (opt_move (by rfl) (by rfl)) (by rfl) (by rfl) (by rfl) ?_
          refine wot_o rfl (opt_move (by rfl) (by rfl)) (by rfl) (by rfl) (by rfl) ?_
          refine wot_o rfl (by exact opt_len_fz (by rfl) (by rfl) (by rfl)) (by rfl) (by rfl) (by rfl) ?_
          refine wot_o rfl (opt_cmp (by rfl) (by rfl) (by rfl) (by rfl) (by rfl)) (by rfl) (by rfl) (by rfl) ?_
          refine wot_nil ?_
          refine wct_if_seq (by rfl) (by rfl) (fun c5 => ?_) (fun c5 => ?_)
          · (refine wct_skip_seq ?_; refine wct_block_sq ?_)
            try simp only [Int.toNat_natCast] at c5
            refine wct_draw_seq (by kernel_rfl) (u := []) (by kernel_rfl) ?_
            refine wtt_o rfl (opt_move (by rfl) (by rfl)) (by rfl) (by rfl) (by rfl) ?_
            refine wtt_o rfl (opt_move (by rfl) (by rfl)) (by rfl) (by rfl) (by rfl) ?_
            refine wtt_o rfl (opt_move (by rfl) (by rfl)) (by rfl) (by rfl) (by rfl) ?_
            refine wtt_o rfl (by exact opt_index_lstN (by rfl) (by rfl) (by rfl) (by rfl) (by omega) (by rfl)) (by rfl) (by rfl) (by rfl) ?_
            refine wtt_o rfl (by exact opt_load_fp_1 (by rfl) (by rfl) (by rfl)) (by rfl) (by rfl) (by rfl) ?_
            refine wtt_c hTb rfl (call_bin (by rfl) (by rfl)) (by refine Drs.cons (by exact dr_ow (by rfl) (by rfl) (by rfl) (by omega) (by exact Nat.le_refl _)) ?_; refine Drs.cons (by exact Dr.cl (by exact Cl.v _)) ?_; exact Drs.nil) (pu27) (by exact Cl.v _) (by rfl) (by rfl) (by rfl) ?_
            refine wtt_o rfl (opt_not (by rfl) (by rfl)) (by rfl) (by rfl) (by rfl) ?_
            refine wtt_o rfl (opt_move (by rfl) (by rfl)) (by rfl) (by rfl) (by rfl) ?_
            refine wtt_splitb (d := 77) (by rfl) (fun g8 => ?_) (fun g8 => ?_)
            · refine wtt_og rfl (by exact opt_fieldAddr_pt (by rfl) (by rfl) (by rfl) (by rfl)) (by rfl) (by rfl) (by rfl) (by rfl) (by rfl) (by rfl) ?_
              refine wtt_og rfl (by exact opt_load_pt_1 (by rfl) (by rfl) (by rfl) (by rfl)) (by rfl) (by rfl) (by rfl) (by rfl) (by rfl) (by rfl) ?_
              refine wtt_og rfl (opt_move (by rfl) (by rfl)) (by rfl) (by rfl) (by rfl) (by rfl) (by rfl) (by rfl) ?_
              refine wtt_og rfl (by exact opt_index_lstN (by rfl) (by rfl) (by rfl) (by rfl) (by omega) (by rfl)) (by rfl) (by rfl) (by rfl) (by rfl) (by rfl) (by rfl) ?_
              refine wtt_og rfl (by exact opt_load_fp_1 (by rfl) (by rfl) (by rfl)) (by rfl) (by rfl) (by rfl) (by rfl) (by rfl) (by rfl) ?_
              refine wtt_og rfl (opt_move (by rfl) (by rfl)) (by rfl) (by rfl) (by rfl) (by rfl) (by rfl) (by rfl) ?_
              refine wtt_og rfl (opt_move (by rfl) (by rfl)) (by rfl) (by rfl) (by rfl) (by rfl) (by rfl) (by rfl) ?_
              refine wtt_og rfl (by exact opt_index_lstN (by rfl) (by rfl) (by rfl) (by rfl) (by omega) (by rfl)) (by rfl) (by rfl) (by rfl) (by rfl) (by rfl) (by rfl) ?_
              refine wtt_og rfl (by exact opt_load_fp_1 (by rfl) (by rfl) (by rfl)) (by rfl) (by rfl) (by rfl) (by rfl) (by rfl) (by rfl) ?_
              refine wtt_cg hTb rfl (call_bin (by rfl) (by rfl)) (by refine Drs.cons (by exact Dr.cl (by exact lst_cl _)) ?_; refine Drs.cons (by exact Dr.cl (by exact Cl.v _)) ?_; exact Drs.nil) (pu27) (by exact Cl.v _) (by rfl) (by rfl) (by rfl) (by rfl) (by rfl) (by rfl) ?_
              refine wtt_og rfl (opt_not (by rfl) (by rfl)) (by rfl) (by rfl) (by rfl) (by rfl) (by rfl) (by rfl) ?_
              refine wtt_o rfl (by exact opt_pick_t (by rfl) (by rfl) (by rfl) (by rfl) (by rfl) (by rfl) (by rfl)) (by rfl) (by rfl) (by rfl) ?_
              refine wtt_nil ?_
              refine ⟨trivial, ?_⟩
              refine wct_ifb (by rfl) (by rfl) (fun c6 => ?_) (fun c6 => ?_)
              · (skip)
                try simp only [Int.toNat_natCast] at c6
                refine wct_region_seq (by simp) ?_
                refine wot_o rfl (opt_assign_c (by rfl)) (by rfl) (by rfl) (by rfl) ?_
                refine wot_nil ?_
                (refine wct_ret ?_; refine qbt_ret ?_; refine qst_ret ?_; refine qst_ret ?_; refine qbt_ret ?_; refine qst_ret ?_; refine qbt_ret ?_; refine qst_ret ?_; refine qst_ret ?_; refine qbt_ret ?_; refine qst_ret ?_; refine qbt_ret ?_; refine qst_ret ?_; refine qst_ret ?_; refine qbt_ret ?_; refine qst_ret ?_)
                exfalso
                have hm := at_memG (xs := usesI (at' (at' c.b b).i i)) (k := k) (by omega)
                have h0 := usesI_nn hf hb1 hi1 _ hm
                have h1 : at' (usesI (at' (at' c.b b).i i)) k ∉ ds := by simpa using g8
                have h2 : at' (usesI (at' (at' c.b b).i i)) k ∉ at' y.in_ b := by simpa using c6
                refine h2 ?_
                rw [hfi]
                exact live_use hi1 hm fun j hj e => h1 (by rw [← e]; exact hD.all j hj (by rw [e]; exact h0))
              · (refine wct_skip ?_; refine qbt_normal ?_; refine qst_wct ?_)
                try simp only [Int.toNat_natCast] at c6
                refine wct_region (by simp) ?_
                refine wot_o rfl (opt_move (by rfl) (by rfl)) (by rfl) (by rfl) (by rfl) ?_
                refine wot_o rfl (opt_add (by rfl) (by rfl) (by rfl) (by rfl) (by constructor <;> omega)) (by rfl) (by rfl) (by rfl) ?_
                refine wot_o rfl (opt_assign (by rfl) (by rfl)) (by rfl) (by rfl) (by rfl) ?_
                refine wot_nil ?_
                (refine qst_loop ?_)
                refine rnd (k + 1) (by (try simp only); omega) ?_ (by exact ⟨rfl, rfl, rfl, rfl, rfl, rfl, rfl, rfl, rfl, trivial⟩) (by rfl)
                try dsimp only
                omega
            · refine wtt_sg (by rfl) (by rfl) (by rfl) (by rfl) (by rfl) (by rfl) ?_
              refine wtt_sg (by rfl) (by rfl) (by rfl) (by rfl) (by rfl) (by rfl) ?_
              refine wtt_sg (by rfl) (by rfl) (by rfl) (by rfl) (by rfl) (by rfl) ?_
              refine wtt_sg (by rfl) (by rfl) (by rfl) (by rfl) (by rfl) (by rfl) ?_
              refine wtt_sg (by rfl) (by rfl) (by rfl) (by rfl) (by rfl) (by rfl) ?_
              refine wtt_sg (by rfl) (by rfl) (by rfl) (by rfl) (by rfl) (by rfl) ?_
              refine wtt_sg (by rfl) (by rfl) (by rfl) (by rfl) (by rfl) (by rfl) ?_
              refine wtt_sg (by rfl) (by rfl) (by rfl) (by rfl) (by rfl) (by rfl) ?_
              refine wtt_sg (by rfl) (by rfl) (by rfl) (by rfl) (by rfl) (by rfl) ?_
              refine wtt_sg (by rfl) (by rfl) (by rfl) (by rfl) (by rfl) (by rfl) ?_
              refine wtt_sg (by rfl) (by rfl) (by rfl) (by rfl) (by rfl) (by rfl) ?_
              refine wtt_o rfl (by exact opt_pick_f (by rfl) (by rfl) (by rfl) (by rfl) (by rfl) (by rfl) (by rfl)) (by rfl) (by rfl) (by rfl) ?_
              refine wtt_nil ?_
              refine ⟨trivial, ?_⟩
              refine wct_ff (by rfl) (by rfl) ?_
              (refine wct_skip ?_; refine qbt_normal ?_; refine qst_wct ?_)
              refine wct_region (by simp) ?_
              refine wot_o rfl (opt_move (by rfl) (by rfl)) (by rfl) (by rfl) (by rfl) ?_
              refine wot_o rfl (opt_add (by rfl) (by rfl) (by rfl) (by rfl) (by constructor <;> omega)) (by rfl) (by rfl) (by rfl) ?_
              refine wot_o rfl (opt_assign (by rfl) (by rfl)) (by rfl) (by rfl) (by rfl) ?_
              refine wot_nil ?_
              (refine qst_loop ?_)
              refine rnd (k + 1) (by (try simp only); omega) ?_ (by exact ⟨rfl, rfl, rfl, rfl, rfl, rfl, rfl, rfl, rfl, trivial⟩) (by rfl)
              try dsimp only
              omega
          · (refine wct_exit_seq ?_; refine qst_exit ?_; refine qbt_same ?_; refine qst_wct ?_)
            try simp only [Int.toNat_natCast] at c5
            refine wct_region_seq (by simp) ?_
            refine wot_o rfl (by exact opt_fieldAddr_pt (by rfl) (by rfl) (by rfl) (by rfl)) (by rfl) (by rfl) (by rfl) ?_
            refine wot_o rfl (by exact opt_load_pt_1 (by rfl) (by rfl) (by rfl) (by rfl)) (by rfl) (by rfl) (by rfl) ?_
            refine wot_o rfl (opt_move (by rfl) (by rfl)) (by rfl) (by rfl) (by rfl) ?_
            refine wot_o rfl (by exact opt_index_lstN (by rfl) (by rfl) (by rfl) (by rfl) (by omega) (by rfl)) (by rfl) (by rfl) (by rfl) ?_
            refine wot_o rfl (by exact opt_fieldAddr_fp (by rfl) (by rfl)) (by rfl) (by rfl) (by rfl) ?_
            refine wot_o rfl (by exact opt_load_fp_1 (by rfl) (by rfl) (by rfl)) (by rfl) (by rfl) (by rfl) ?_
            refine wot_o rfl (opt_move (by rfl) (by rfl)) (by rfl) (by rfl) (by rfl) ?_
            refine wot_o rfl (by exact opt_index_lstN (by rfl) (by rfl) (by rfl) (by rfl) (by omega) (by rfl)) (by rfl) (by rfl) (by rfl) ?_
            refine wot_o (x := Enc.tv (at' (at' c.b b).i i)) rfl (opt_as (by exact opt_load_fp_row (by rfl) (by rfl) (by rfl)) (by rfl)) (by rfl) (by rfl) (by rfl) ?_
            refine wot_c hTb rfl (call_bin (by rfl) (by rfl)) (by refine Drs.cons (by exact Dr.cl (by exact Enc.cl _)) ?_; exact Drs.nil) (pu28) (by exact Cl.v _) (by rfl) (by rfl) (by rfl) ?_
            refine wot_o rfl (opt_assign (by rfl) (by rfl)) (by rfl) (by rfl) (by rfl) ?_
            refine wot_nil ?_
            refine wct_region_seq (by simp) ?_
            refine wot_o rfl (opt_move (by rfl) (by rfl)) (by rfl) (by rfl) (by rfl) ?_
            refine wot_o rfl (opt_cmp (by rfl) (by rfl) (by rfl) (by rfl) (by rfl)) (by rfl) (by rfl) (by rfl) ?_
            refine wot_o rfl (opt_move (by rfl) (by rfl)) (by rfl) (by rfl) (by rfl) ?_
            refine wot_split (d := 102) (by rfl) (fun g3 => ?_) (fun g3 => ?_)
            · refine wot_og rfl (opt_move (by rfl) (by rfl)) (by rfl) (by rfl) (by rfl) (by rfl) (by rfl) (by rfl) ?_
              refine wot_og rfl (opt_move (by rfl) (by rfl)) (by rfl) (by rfl) (by rfl) (by rfl) (by rfl) (by rfl) ?_
              refine wot_cg hTb rfl (call_bin (by rfl) (by rfl)) (by refine Drs.cons (by exact dr_ow (by rfl) (by rfl) (by rfl) (by omega) (by exact Nat.le_refl _)) ?_; refine Drs.cons (by exact Dr.cl (by exact Cl.v _)) ?_; exact Drs.nil) (pu27) (by exact Cl.v _) (by rfl) (by rfl) (by rfl) (by rfl) (by rfl) (by rfl) ?_
              refine wot_og rfl (opt_not (by rfl) (by rfl)) (by rfl) (by rfl) (by rfl) (by rfl) (by rfl) (by rfl) ?_
              refine wot_o rfl (by exact opt_pick_t (by rfl) (by rfl) (by rfl) (by rfl) (by rfl) (by rfl) (by rfl)) (by rfl) (by rfl) (by rfl) ?_
              refine wot_nil ?_
              refine wct_ifb (by rfl) (by rfl) (fun c7 => ?_) (fun c7 => ?_)
              · (refine wct_assoc ?_)
                try simp only [Int.toNat_natCast] at c7
                refine wct_region_seq (by simp) ?_
                refine wot_o rfl (by exact opt_fieldAddr_pt (by rfl) (by rfl) (by rfl) (by rfl)) (by rfl) (by rfl) (by rfl) ?_
                refine wot_o rfl (by exact opt_load_pt_1 (by rfl) (by rfl) (by rfl) (by rfl)) (by rfl) (by rfl) (by rfl) ?_
                refine wot_o rfl (opt_move (by rfl) (by rfl)) (by rfl) (by rfl) (by rfl) ?_
                refine wot_o rfl (by exact opt_index_lstN (by rfl) (by rfl) (by rfl) (by rfl) (by omega) (by rfl)) (by rfl) (by rfl) (by rfl) ?_
                refine wot_o rfl (by exact opt_load_fp_1 (by rfl) (by rfl) (by rfl)) (by rfl) (by rfl) (by rfl) ?_
                refine wot_o rfl (opt_move (by rfl) (by rfl)) (by rfl) (by rfl) (by rfl) ?_
                refine wot_c hTb rfl (call_bin (by rfl) (by rfl)) (by refine Drs.cons (by exact Dr.cl (by exact lst_cl _)) ?_; refine Drs.cons (by exact Dr.cl (by exact Cl.v _)) ?_; exact Drs.nil) (pu27) (by exact Cl.v _) (by rfl) (by rfl) (by rfl) ?_
                refine wot_o rfl (opt_move (by rfl) (by rfl)) (by rfl) (by rfl) (by rfl) ?_
                refine wot_split (d := 115) (by rfl) (fun g8 => ?_) (fun g8 => ?_)
                · refine wot_og rfl (by exact opt_fieldAddr_pt (by rfl) (by rfl) (by rfl) (by rfl)) (by rfl) (by rfl) (by rfl) (by rfl) (by rfl) (by rfl) ?_
                  refine wot_og rfl (by exact opt_load_pt_1 (by rfl) (by rfl) (by rfl) (by rfl)) (by rfl) (by rfl) (by rfl) (by rfl) (by rfl) (by rfl) ?_
                  refine wot_og rfl (opt_move (by rfl) (by rfl)) (by rfl) (by rfl) (by rfl) (by rfl) (by rfl) (by rfl) ?_
                  refine wot_og rfl (by exact opt_index_lstN (by rfl) (by rfl) (by rfl) (by rfl) (by omega) (by rfl)) (by rfl) (by rfl) (by rfl) (by rfl) (by rfl) (by rfl) ?_
                  refine wot_og rfl (by exact opt_fieldAddr_fp (by rfl) (by rfl)) (by rfl) (by rfl) (by rfl) (by rfl) (by rfl) (by rfl) ?_
                  refine wot_og rfl (by exact opt_load_fp_1 (by rfl) (by rfl) (by rfl)) (by rfl) (by rfl) (by rfl) (by rfl) (by rfl) (by rfl) ?_
                  refine wot_og rfl (opt_move (by rfl) (by rfl)) (by rfl) (by rfl) (by rfl) (by rfl) (by rfl) (by rfl) ?_
                  refine wot_og (x := ti ((i + 1 : Nat) : Int)) rfl (opt_as (opt_add (by rfl) (by rfl) (by rfl) (by rfl) (by constructor <;> omega)) (by rfl)) (by rfl) (by rfl) (by rfl) (by rfl) (by rfl) (by rfl) ?_
                  refine wot_og rfl (by exact opt_slice_hi (by rfl) (by rfl) (by rfl) (by rfl) (by omega) (by rfl)) (by rfl) (by rfl) (by rfl) (by rfl) (by rfl) (by rfl) ?_
                  refine wot_og rfl (opt_move (by rfl) (by rfl)) (by rfl) (by rfl) (by rfl) (by rfl) (by rfl) (by rfl) ?_
                  refine wot_cg hTb rfl (call_bin (by rfl) (by rfl)) (by refine Drs.cons (by exact Dr.cl (by exact lst_cl _)) ?_; refine Drs.cons (by exact Dr.cl (by exact Cl.v _)) ?_; exact Drs.nil) (pu29) (by exact Cl.v _) (by rfl) (by rfl) (by rfl) (by rfl) (by rfl) (by rfl) ?_
                  refine wot_og rfl (opt_not (by rfl) (by rfl)) (by rfl) (by rfl) (by rfl) (by rfl) (by rfl) (by rfl) ?_
                  refine wot_o rfl (by exact opt_pick_t (by rfl) (by rfl) (by rfl) (by rfl) (by rfl) (by rfl) (by rfl)) (by rfl) (by rfl) (by rfl) ?_
                  refine wot_nil ?_
                  refine wct_ifb_seq (by rfl) (by rfl) (fun c8 => ?_) (fun c8 => ?_)
                  · (refine wct_assoc ?_)
                    try simp only [Int.toNat_natCast] at c8
                    refine wct_region_seq (by simp) ?_
                    refine wot_o rfl (opt_assign_c (by rfl)) (by rfl) (by rfl) (by rfl) ?_
                    refine wot_nil ?_
                    (refine wct_ret_seq ?_; refine qbt_ret ?_; refine qst_ret ?_; refine qst_ret ?_; refine qbt_ret ?_; refine qst_ret ?_; refine qbt_ret ?_; refine qst_ret ?_; refine qst_ret ?_; refine qbt_ret ?_; refine qst_ret ?_)
                    exfalso
                    have h0 : 0 ≤ dfn (at' (at' c.b b).i i) := g3
                    have h2 : dfn (at' (at' c.b b).i i) ∈ at' y.in_ b := by simpa using g8
                    rw [hfi] at h2
                    obtain ⟨j, hj, hu⟩ := live_def hi1 rfl h2
                    have h3 : ¬ usedL ((at' c.b b).i.take (i + 1)) (dfn (at' (at' c.b b).i i)) := by simpa using c8
                    exact h3 ⟨at' (at' c.b b).i j, by rw [← at_take (show j < i + 1 by omega)]; exact at_memG (by rw [List.length_take]; omega), hu⟩
                  · (refine wct_skip_seq ?_)
                    try simp only [Int.toNat_natCast] at c8
                    refine wct_region (by simp) ?_
                    refine wot_o rfl (opt_move (by rfl) (by rfl)) (by rfl) (by rfl) (by rfl) ?_
                    refine wot_o rfl (opt_move (by rfl) (by rfl)) (by rfl) (by rfl) (by rfl) ?_
                    refine wot_o rfl (opt_lit_l ([dfn (at' (at' c.b b).i i)]) (by rfl) (by rfl) (by rfl) (by rfl) (by rfl) (by rfl) (by rfl) (by rfl) (by rfl) (by rfl)) (by rfl) (by rfl) (by rfl) ?_
                    refine wot_of rfl (by exact opt_append_l (by rfl) (by rfl) (by rfl) (by rfl) src_lst (by rfl) (by rfl) (by rfl) (by (simp only [List.length_append, List.length_cons, List.length_nil, List.length_take, List.length_drop]; omega)) (by rfl)) (EffOk.pure hX) (by rfl) (by rfl) (by rfl) ?_
                    refine wot_o rfl (opt_assign (by rfl) (by rfl)) (by rfl) (by rfl) (by rfl) ?_
                    refine wot_nil ?_
                    (refine qbt_normal ?_; refine qst_wct ?_)
                    refine wct_region (by simp) ?_
                    refine wot_o rfl (opt_move (by rfl) (by rfl)) (by rfl) (by rfl) (by rfl) ?_
                    refine wot_o rfl (opt_add (by rfl) (by rfl) (by rfl) (by rfl) (by constructor <;> omega)) (by rfl) (by rfl) (by rfl) ?_
                    refine wot_o rfl (opt_assign (by rfl) (by rfl)) (by rfl) (by rfl) (by rfl) ?_
                    refine wot_nil ?_
                    (refine qst_loop ?_)
                    refine rnd (i + 1, g + 1, ds ++ [dfn (at' (at' c.b b).i i)]) (by (try simp only); omega) ?_ (by exact ⟨rfl, rfl, rfl, rfl, rfl, rfl, rfl, trivial⟩) (by rfl)
                    try dsimp only
                    exact ⟨by omega, hD.add⟩
                · refine wot_sg (by rfl) (by rfl) (by rfl) (by rfl) (by rfl) (by rfl) ?_
                  refine wot_sg (by rfl) (by rfl) (by rfl) (by rfl) (by rfl) (by rfl) ?_
                  refine wot_sg (by rfl) (by rfl) (by rfl) (by rfl) (by rfl) (by rfl) ?_
                  refine wot_sg (by rfl) (by rfl) (by rfl) (by rfl) (by rfl) (by rfl) ?_
                  refine wot_sg (by rfl) (by rfl) (by rfl) (by rfl) (by rfl) (by rfl) ?_
                  refine wot_sg (by rfl) (by rfl) (by rfl) (by rfl) (by rfl) (by rfl) ?_
                  refine wot_sg (by rfl) (by rfl) (by rfl) (by rfl) (by rfl) (by rfl) ?_
                  refine wot_sg (by rfl) (by rfl) (by rfl) (by rfl) (by rfl) (by rfl) ?_
                  refine wot_sg (by rfl) (by rfl) (by rfl) (by rfl) (by rfl) (by rfl) ?_
                  refine wot_sg (by rfl) (by rfl) (by rfl) (by rfl) (by rfl) (by rfl) ?_
                  refine wot_sg (by rfl) (by rfl) (by rfl) (by rfl) (by rfl) (by rfl) ?_
                  refine wot_sg (by rfl) (by rfl) (by rfl) (by rfl) (by rfl) (by rfl) ?_
                  refine wot_o rfl (by exact opt_pick_f (by rfl) (by rfl) (by rfl) (by rfl) (by rfl) (by rfl) (by rfl)) (by rfl) (by rfl) (by rfl) ?_
                  refine wot_nil ?_
                  refine wct_ff_seq (by rfl) (by rfl) ?_
                  (refine wct_skip_seq ?_)
                  refine wct_region (by simp) ?_
                  refine wot_o rfl (opt_move (by rfl) (by rfl)) (by rfl) (by rfl) (by rfl) ?_
                  refine wot_o rfl (opt_move (by rfl) (by rfl)) (by rfl) (by rfl) (by rfl) ?_
                  refine wot_o rfl (opt_lit_l ([dfn (at' (at' c.b b).i i)]) (by rfl) (by rfl) (by rfl) (by rfl) (by rfl) (by rfl) (by rfl) (by rfl) (by rfl) (by rfl)) (by rfl) (by rfl) (by rfl) ?_
                  refine wot_of rfl (by exact opt_append_l (by rfl) (by rfl) (by rfl) (by rfl) src_lst (by rfl) (by rfl) (by rfl) (by (simp only [List.length_append, List.length_cons, List.length_nil, List.length_take, List.length_drop]; omega)) (by rfl)) (EffOk.pure hX) (by rfl) (by rfl) (by rfl) ?_
                  refine wot_o rfl (opt_assign (by rfl) (by rfl)) (by rfl) (by rfl) (by rfl) ?_
                  refine wot_nil ?_
                  (refine qbt_normal ?_; refine qst_wct ?_)
                  refine wct_region (by simp) ?_
                  refine wot_o rfl (opt_move (by rfl) (by rfl)) (by rfl) (by rfl) (by rfl) ?_
                  refine wot_o rfl (opt_add (by rfl) (by rfl) (by rfl) (by rfl) (by constructor <;> omega)) (by rfl) (by rfl) (by rfl) ?_
                  refine wot_o rfl (opt_assign (by rfl) (by rfl)) (by rfl) (by rfl) (by rfl) ?_
                  refine wot_nil ?_
                  (refine qst_loop ?_)
                  refine rnd (i + 1, g + 1, ds ++ [dfn (at' (at' c.b b).i i)]) (by (try simp only); omega) ?_ (by exact ⟨rfl, rfl, rfl, rfl, rfl, rfl, rfl, trivial⟩) (by rfl)
                  try dsimp only
                  exact ⟨by omega, hD.add⟩
              · (refine wct_skip ?_; refine qbt_normal ?_; refine qst_wct ?_)
                try simp only [Int.toNat_natCast] at c7
                refine wct_region (by simp) ?_
                refine wot_o rfl (opt_move (by rfl) (by rfl)) (by rfl) (by rfl) (by rfl) ?_
                refine wot_o rfl (opt_add (by rfl) (by rfl) (by rfl) (by rfl) (by constructor <;> omega)) (by rfl) (by rfl) (by rfl) ?_
                refine wot_o rfl (opt_assign (by rfl) (by rfl)) (by rfl) (by rfl) (by rfl) ?_
                refine wot_nil ?_
                (refine qst_loop ?_)
                refine rnd (i + 1, g, ds) (by (try simp only); omega) ?_ (by exact ⟨rfl, rfl, rfl, rfl, rfl, rfl, rfl, trivial⟩) (by rfl)
                try dsimp only
                exact ⟨by omega, hD.skip fun _ => by simpa using c7⟩
            · refine wot_sg (by rfl) (by rfl) (by rfl) (by rfl) (by rfl) (by rfl) ?_
              refine wot_sg (by rfl) (by rfl) (by rfl) (by rfl) (by rfl) (by rfl) ?_
              refine wot_sg (by rfl) (by rfl) (by rfl) (by rfl) (by rfl) (by rfl) ?_
              refine wot_sg (by rfl) (by rfl) (by rfl) (by rfl) (by rfl) (by rfl) ?_
              refine wot_o rfl (by exact opt_pick_f (by rfl) (by rfl) (by rfl) (by rfl) (by rfl) (by rfl) (by rfl)) (by rfl) (by rfl) (by rfl) ?_
              refine wot_nil ?_
              refine wct_ff (by rfl) (by rfl) ?_
              (refine wct_skip ?_; refine qbt_normal ?_; refine qst_wct ?_)
              refine wct_region (by simp) ?_
              refine wot_o rfl (opt_move (by rfl) (by rfl)) (by rfl) (by rfl) (by rfl) ?_
              refine wot_o rfl (opt_add (by rfl) (by rfl) (by rfl) (by rfl) (by constructor <;> omega)) (by rfl) (by rfl) (by rfl) ?_
              refine wot_o rfl (opt_assign (by rfl) (by rfl)) (by rfl) (by rfl) (by rfl) ?_
              refine wot_nil ?_
              (refine qst_loop ?_)
              refine rnd (i + 1, g, ds) (by (try simp only); omega) ?_ (by exact ⟨rfl, rfl, rfl, rfl, rfl, rfl, rfl, trivial⟩) (by rfl)
              try dsimp only
              exact ⟨by omega, hD.skip fun h => absurd h g3⟩
        · (refine wct_exit_seq ?_; refine qst_exit ?_; refine qbt_same ?_; refine qst_wct ?_)
          try simp only [Int.toNat_natCast] at c4
          refine wct_ghost (g_pop (F := [(3, tb true), (4, .pt 0 0 0), (5, .pt 1 0 0), (6, lst false (reachL c)), (7, ti (b : Int))]) (Th1 := [⟨0, some (34, cls c)⟩, ⟨0, some (38, cls y)⟩]) (gar := _) rfl (by rw [hX]; exact Nat.zero_le _) (by exact ⟨rfl, rfl, rfl, rfl, rfl, trivial⟩) (by exact ⟨Lo.cl (Cl.v _), Lo.pt (by rfl), Lo.pt (by rfl), Lo.cl (lst_cl _), Lo.cl (Cl.v _), trivial⟩) (by exact ⟨fun d hd => Lo.cl (cls_cl c d hd), fun d hd => Lo.cl (cls_cl y d hd), trivial⟩)) ?_
          have hil := fun h => (hy.un b hb1 h)
          refine wct_draw_seq (by kernel_rfl) (u := []) (by kernel_rfl) ?_
          refine wtt_o rfl (opt_move (by rfl) (by rfl)) (by rfl) (by rfl) (by rfl) ?_
          refine wtt_o rfl (opt_move (by rfl) (by rfl)) (by rfl) (by rfl) (by rfl) ?_
          refine wtt_o rfl (by exact opt_index_lstN (by rfl) (by rfl) (by rfl) (by rfl) (by omega) (by rfl)) (by rfl) (by rfl) (by rfl) ?_
          refine wtt_o rfl (by exact opt_load_fp_1 (by rfl) (by rfl) (by rfl)) (by rfl) (by rfl) (by rfl) ?_
          refine wtt_o rfl (opt_not (by rfl) (by rfl)) (by rfl) (by rfl) (by rfl) ?_
          refine wtt_o rfl (opt_move (by rfl) (by rfl)) (by rfl) (by rfl) (by rfl) ?_
          refine wtt_splitb (d := 138) (by rfl) (fun g6 => ?_) (fun g6 => ?_)
          · refine wtt_og rfl (by exact opt_fieldAddr_pt (by rfl) (by rfl) (by rfl) (by rfl)) (by rfl) (by rfl) (by rfl) (by rfl) (by rfl) (by rfl) ?_
            refine wtt_og rfl (by exact opt_load_pt_1 (by rfl) (by rfl) (by rfl) (by rfl)) (by rfl) (by rfl) (by rfl) (by rfl) (by rfl) (by rfl) ?_
            refine wtt_og rfl (opt_move (by rfl) (by rfl)) (by rfl) (by rfl) (by rfl) (by rfl) (by rfl) (by rfl) ?_
            refine wtt_og rfl (by exact opt_index_lstN (by rfl) (by rfl) (by rfl) (by rfl) (by omega) (by rfl)) (by rfl) (by rfl) (by rfl) (by rfl) (by rfl) (by rfl) ?_
            refine wtt_og rfl (by exact opt_load_fp_1 (by rfl) (by rfl) (by rfl)) (by rfl) (by rfl) (by rfl) (by rfl) (by rfl) (by rfl) ?_
            refine wtt_og rfl (by exact opt_len_fz (by rfl) (by rfl) (by rfl)) (by rfl) (by rfl) (by rfl) (by rfl) (by rfl) (by rfl) ?_
            refine wtt_og rfl (by exact opt_fieldAddr_pt (by rfl) (by rfl) (by rfl) (by rfl)) (by rfl) (by rfl) (by rfl) (by rfl) (by rfl) (by rfl) ?_
            refine wtt_og rfl (by exact opt_load_pt_1 (by rfl) (by rfl) (by rfl) (by rfl)) (by rfl) (by rfl) (by rfl) (by rfl) (by rfl) (by rfl) ?_
            refine wtt_og rfl (opt_move (by rfl) (by rfl)) (by rfl) (by rfl) (by rfl) (by rfl) (by rfl) (by rfl) ?_
            refine wtt_og rfl (by exact opt_index_lstN (by rfl) (by rfl) (by rfl) (by rfl) (by omega) (by rfl)) (by rfl) (by rfl) (by rfl) (by rfl) (by rfl) (by rfl) ?_
            refine wtt_og rfl (by exact opt_load_fp_1 (by rfl) (by rfl) (by rfl)) (by rfl) (by rfl) (by rfl) (by rfl) (by rfl) (by rfl) ?_
            refine wtt_og rfl (by exact opt_len_fz (by rfl) (by rfl) (by rfl)) (by rfl) (by rfl) (by rfl) (by rfl) (by rfl) (by rfl) ?_
            refine wtt_og rfl (opt_add (by rfl) (by rfl) (by rfl) (by rfl) (by have h1 := (hy.ok b hb1).1.len hf.rg.2; have h2 := (hy.ok b hb1).2.len hf.rg.2; constructor <;> omega)) (by rfl) (by rfl) (by rfl) (by rfl) (by rfl) (by rfl) ?_
            refine wtt_og rfl (opt_cmp (by rfl) (by rfl) (by rfl) (by rfl) (by rfl)) (by rfl) (by rfl) (by rfl) (by rfl) (by rfl) (by rfl) ?_
            refine wtt_o rfl (by exact opt_pick_t (by rfl) (by rfl) (by rfl) (by rfl) (by rfl) (by rfl) (by rfl)) (by rfl) (by rfl) (by rfl) ?_
            refine wtt_nil ?_
            refine ⟨trivial, ?_⟩
            refine wct_if (by rfl) (by rfl) (fun c9 => ?_) (fun c9 => ?_)
            · (skip)
              try simp only [Int.toNat_natCast] at c9
              refine wct_region_seq (by simp) ?_
              refine wot_o rfl (opt_assign_c (by rfl)) (by rfl) (by rfl) (by rfl) ?_
              refine wot_nil ?_
              (refine wct_ret ?_; refine qbt_ret ?_; refine qst_ret ?_; refine qst_ret ?_; refine qbt_ret ?_; refine qst_ret ?_)
              exfalso
              have h1 : at' (reachL c) b = false := by simpa using g6
              obtain ⟨h2, h3⟩ := hil h1
              rw [h2, h3] at c9
              simp at c9
            · (refine wct_skip ?_; refine qbt_normal ?_; refine qst_wct ?_)
              try simp only [Int.toNat_natCast] at c9
              refine wct_region (by simp) ?_
              refine wot_o rfl (opt_move (by rfl) (by rfl)) (by rfl) (by rfl) (by rfl) ?_
              refine wot_o rfl (opt_add (by rfl) (by rfl) (by rfl) (by rfl) (by constructor <;> omega)) (by rfl) (by rfl) (by rfl) ?_
              refine wot_o rfl (opt_assign (by rfl) (by rfl)) (by rfl) (by rfl) (by rfl) ?_
              refine wot_nil ?_
              (refine qst_loop ?_)
              refine rnd (b + 1) (by (try simp only); omega) ?_ (by exact ⟨rfl, rfl, rfl, rfl, rfl, trivial⟩) (by rfl)
              try dsimp only
              omega
          · refine wtt_sg (by rfl) (by rfl) (by rfl) (by rfl) (by rfl) (by rfl) ?_
            refine wtt_sg (by rfl) (by rfl) (by rfl) (by rfl) (by rfl) (by rfl) ?_
            refine wtt_sg (by rfl) (by rfl) (by rfl) (by rfl) (by rfl) (by rfl) ?_
            refine wtt_sg (by rfl) (by rfl) (by rfl) (by rfl) (by rfl) (by rfl) ?_
            refine wtt_sg (by rfl) (by rfl) (by rfl) (by rfl) (by rfl) (by rfl) ?_
            refine wtt_sg (by rfl) (by rfl) (by rfl) (by rfl) (by rfl) (by rfl) ?_
            refine wtt_sg (by rfl) (by rfl) (by rfl) (by rfl) (by rfl) (by rfl) ?_
            refine wtt_sg (by rfl) (by rfl) (by rfl) (by rfl) (by rfl) (by rfl) ?_
            refine wtt_sg (by rfl) (by rfl) (by rfl) (by rfl) (by rfl) (by rfl) ?_
            refine wtt_sg (by rfl) (by rfl) (by rfl) (by rfl) (by rfl) (by rfl) ?_
            refine wtt_sg (by rfl) (by rfl) (by rfl) (by rfl) (by rfl) (by rfl) ?_
            refine wtt_sg (by rfl) (by rfl) (by rfl) (by rfl) (by rfl) (by rfl) ?_
            refine wtt_sg (by rfl) (by rfl) (by rfl) (by rfl) (by rfl) (by rfl) ?_
            refine wtt_sg (by rfl) (by rfl) (by rfl) (by rfl) (by rfl) (by rfl) ?_
            refine wtt_o rfl (by exact opt_pick_f (by rfl) (by rfl) (by rfl) (by rfl) (by rfl) (by rfl) (by rfl)) (by rfl) (by rfl) (by rfl) ?_
            refine wtt_nil ?_
            refine ⟨trivial, ?_⟩
            refine wct_ff (by rfl) (by rfl) ?_
            (refine wct_skip ?_; refine qbt_normal ?_; refine qst_wct ?_)
            refine wct_region (by simp) ?_
            refine wot_o rfl (opt_move (by rfl) (by rfl)) (by rfl) (by rfl) (by rfl) ?_
            refine wot_o rfl (opt_add (by rfl) (by rfl) (by rfl) (by rfl) (by constructor <;> omega)) (by rfl) (by rfl) (by rfl) ?_
            refine wot_o rfl (opt_assign (by rfl) (by rfl)) (by rfl) (by rfl) (by rfl) ?_
            refine wot_nil ?_
            (refine qst_loop ?_)
            refine rnd (b + 1) (by (try simp only); omega) ?_ (by exact ⟨rfl, rfl, rfl, rfl, rfl, trivial⟩) (by rfl)
            try dsimp only
            omega
      · (refine wct_exit_seq ?_; refine qst_exit ?_; refine qbt_same ?_; refine qst_wct ?_)
        try simp only [Int.toNat_natCast] at c3
        refine wct_region_seq (by simp) ?_
        refine wot_o rfl (opt_move (by rfl) (by rfl)) (by rfl) (by rfl) (by rfl) ?_
        refine wot_o rfl (opt_assign (by rfl) (by rfl)) (by rfl) (by rfl) (by rfl) ?_
        refine wot_nil ?_
        (refine wct_ret ?_)
        refine fin_1c (by simp) rfl (by rfl) (by exact Cl.v _) ?_
        rfl
end Go.Ab
