/- The road to a card of this seat: G20. Each theorem holds for every input that its own premises speak of. -/
import Derived.Test.YtaaeeiheeihjaaaDoorG18
import Derived.Test.YtaaeeiheeihjaaaDoorG3
set_option linter.all false
namespace Go.Ab
open Go.Proofs
theorem pu52e {c : Code} {t : Bool} {ls : List (List Int)} (hf : Fit c) (hl : ls.length ≤ 2 ^ 20) : Pu Tryd.prog 52 [Enc.tv c, lst t ls] (fun r => Cl r ∧ ∃ s b, r = .tup [s, tb b] ∧ (b = true → s = lst false (ls.map ofB) ∧ (∀ l ∈ ls, LiOk c.regs l) ∧ ls.length = c.b.length) ∧ (b = false → ¬ ((∀ l ∈ ls, LiOk c.regs l) ∧ ls.length = c.b.length))) := (pu52 hf hl).mono fun r h => by
  rcases h with ⟨rfl, h⟩ | ⟨rfl, h⟩
  · refine ⟨.tup fun d hd => ?_, _, _, rfl, fun e => ⟨rfl, h, by simpa using e⟩, fun e k => by simp [k.2] at e⟩
    simp only [List.mem_cons, List.not_mem_nil, or_false] at hd
    rcases hd with rfl | rfl
    · exact lst_cl _
    · exact .v _
  · refine ⟨.tup fun d hd => ?_, _, _, rfl, fun e => (by cases e), fun _ k => h k.1⟩
    simp only [List.mem_cons, List.not_mem_nil, or_false] at hd
    rcases hd with rfl | rfl
    · exact .v _
    · exact .v _
theorem pu17 {c : Code} {x : Live} (hf : Fit c) (hx1 : x.in_.length ≤ 2 ^ 20) (hx2 : x.out.length ≤ 2 ^ 20) : Pu Tryd.prog 17 [Enc.tv c, Enc.tv x] (Eq (ti (if ClosedI c x then 0 else 100))) := by
  have hnb := hf.nb
  have hrl := reachL_len c
  refine pu_fn fn17 (by rfl) (by rfl) (by rfl) fun X hX hTb => ?_
  refine wct_region_seq (by simp) ?_
  refine wot_o rfl (opt_box_fz (by rfl) (by rfl) (by trivial)) (by rfl) (by rfl) (by rfl) ?_
  refine wot_o rfl (opt_box_fz (by rfl) (by rfl) (by trivial)) (by rfl) (by rfl) (by rfl) ?_
  refine wot_o rfl (opt_assign_c (by rfl)) (by rfl) (by rfl) (by rfl) ?_
  refine wot_nil ?_
  refine wct_region_seq (by simp) ?_
  refine wot_o rfl (by exact opt_load_fp_row (by rfl) (by rfl) (by rfl)) (by rfl) (by rfl) (by rfl) ?_
  refine wot_o rfl (by exact opt_fieldAddr_fp (by rfl) (by rfl)) (by rfl) (by rfl) (by rfl) ?_
  refine wot_o rfl (by exact opt_load_fp_1 (by rfl) (by rfl) (by rfl)) (by rfl) (by rfl) (by rfl) ?_
  refine wot_ce hTb rfl (call_bin (by rfl) (by rfl)) (by refine Drs.cons (by exact Dr.cl (by exact Cl.agg (cls_cl _))) ?_; refine Drs.cons (by exact Dr.cl (by exact lst_cl _)) ?_; exact Drs.nil) (pu52e hf (by omega)) (by (rintro r h; exact h.1)) (by rfl) (by rfl) (by rfl) ?_
  rintro r ⟨_, s1, b1, rfl, ht1, hn1⟩
  refine wot_o rfl (opt_move (by rfl) (by rfl)) (by rfl) (by rfl) (by rfl) ?_
  refine wot_o rfl (opt_extract (by rfl) (by rfl) (by rfl)) (by rfl) (by rfl) (by rfl) ?_
  refine wot_o rfl (opt_extract (by rfl) (by rfl) (by rfl)) (by rfl) (by rfl) (by rfl) ?_
  refine wot_o rfl (opt_assign (by rfl) (by rfl)) (by rfl) (by rfl) (by rfl) ?_
  refine wot_o rfl (opt_assign (by rfl) (by rfl)) (by rfl) (by rfl) (by rfl) ?_
  refine wot_nil ?_
  refine wct_region_seq (by simp) ?_
  refine wot_o rfl (by exact opt_load_fp_row (by rfl) (by rfl) (by rfl)) (by rfl) (by rfl) (by rfl) ?_
  refine wot_o rfl (by exact opt_fieldAddr_fp (by rfl) (by rfl)) (by rfl) (by rfl) (by rfl) ?_
  refine wot_o rfl (by exact opt_load_fp_1 (by rfl) (by rfl) (by rfl)) (by rfl) (by rfl) (by rfl) ?_
  refine wot_ce hTb rfl (call_bin (by rfl) (by rfl)) (by refine Drs.cons (by exact Dr.cl (by exact Cl.agg (cls_cl _))) ?_; refine Drs.cons (by exact Dr.cl (by exact lst_cl _)) ?_; exact Drs.nil) (pu52e hf (by omega)) (by (rintro r h; exact h.1)) (by rfl) (by rfl) (by rfl) ?_
  rintro r ⟨_, s2, b2, rfl, ht2, hn2⟩
  refine wot_o rfl (opt_move (by rfl) (by rfl)) (by rfl) (by rfl) (by rfl) ?_
  refine wot_o rfl (opt_extract (by rfl) (by rfl) (by rfl)) (by rfl) (by rfl) (by rfl) ?_
  refine wot_o rfl (opt_extract (by rfl) (by rfl) (by rfl)) (by rfl) (by rfl) (by rfl) ?_
  refine wot_o rfl (opt_assign (by rfl) (by rfl)) (by rfl) (by rfl) (by rfl) ?_
  refine wot_o rfl (opt_assign (by rfl) (by rfl)) (by rfl) (by rfl) (by rfl) ?_
  refine wot_nil ?_
  (refine wct_assoc ?_)
  refine wct_region_seq (by simp) ?_
  refine wot_o rfl (opt_move (by rfl) (by rfl)) (by rfl) (by rfl) (by rfl) ?_
  refine wot_o rfl (opt_not (by rfl) (by rfl)) (by rfl) (by rfl) (by rfl) ?_
  refine wot_o rfl (opt_move (by rfl) (by rfl)) (by rfl) (by rfl) (by rfl) ?_
  refine wot_splitb (d := 27) (by rfl) (fun g3 => ?_) (fun g3 => ?_)
  · refine wot_sg (by rfl) (by rfl) (by rfl) (by rfl) (by rfl) (by rfl) ?_
    refine wot_sg (by rfl) (by rfl) (by rfl) (by rfl) (by rfl) (by rfl) ?_
    refine wot_o rfl (by exact opt_pick_t (by rfl) (by rfl) (by rfl) (by rfl) (by rfl) (by rfl) (by rfl)) (by rfl) (by rfl) (by rfl) ?_
    refine wot_nil ?_
    refine wct_tt_seq (by rfl) (by rfl) ?_
    (refine wct_assoc ?_)
    refine wct_region_seq (by simp) ?_
    refine wot_o rfl (opt_assign_c (by rfl)) (by rfl) (by rfl) (by rfl) ?_
    refine wot_nil ?_
    (refine wct_ret_seq ?_)
    refine fin_1c (by simp) rfl (by rfl) (by exact Cl.v _) ?_
    have hb : b1 = false := by simpa using g3
    rw [if_neg fun h => hn1 hb ⟨(oks_mem ⟨h.1, h.2.1, h.2.2.1⟩).1, h.1⟩]
  · refine wot_og rfl (opt_move (by rfl) (by rfl)) (by rfl) (by rfl) (by rfl) (by rfl) (by rfl) (by rfl) ?_
    refine wot_og rfl (opt_not (by rfl) (by rfl)) (by rfl) (by rfl) (by rfl) (by rfl) (by rfl) (by rfl) ?_
    refine wot_o rfl (by exact opt_pick_f (by rfl) (by rfl) (by rfl) (by rfl) (by rfl) (by rfl) (by rfl)) (by rfl) (by rfl) (by rfl) ?_
    refine wot_nil ?_
    refine wct_ifb_seq (by rfl) (by rfl) (fun c1 => ?_) (fun c1 => ?_)
    · (refine wct_assoc ?_)
      try simp only [Int.toNat_natCast] at c1
      refine wct_region_seq (by simp) ?_
      refine wot_o rfl (opt_assign_c (by rfl)) (by rfl) (by rfl) (by rfl) ?_
      refine wot_nil ?_
      (refine wct_ret_seq ?_)
      refine fin_1c (by simp) rfl (by rfl) (by exact Cl.v _) ?_
      have hb : b2 = false := by simpa using c1
      rw [if_neg fun h => hn2 hb ⟨(oks_mem ⟨h.1, h.2.1, h.2.2.1⟩).2, h.2.1⟩]
    · (refine wct_skip_seq ?_; refine wct_assoc ?_)
      try simp only [Int.toNat_natCast] at c1
      have hb1 : b1 = true := by simpa using g3
      have hb2 : b2 = true := by simpa using c1
      obtain ⟨rfl, ho1, hl1⟩ := ht1 hb1
      obtain ⟨rfl, ho2, hl2⟩ := ht2 hb2
      have hoks := mem_oks ho1 ho2 hl1 hl2
      have hm1 : (x.in_.map ofB).length = c.b.length := by rw [List.length_map]; exact hl1
      have hm2 : (x.out.map ofB).length = c.b.length := by rw [List.length_map]; exact hl2
      refine wct_region_seq (by simp) ?_
      refine wot_o rfl (by exact opt_load_fp_row (by rfl) (by rfl) (by rfl)) (by rfl) (by rfl) (by rfl) ?_
      refine wot_c hTb rfl (call_bin (by rfl) (by rfl)) (by refine Drs.cons (by exact Dr.cl (by exact Cl.agg (cls_cl _))) ?_; exact Drs.nil) (pu43 hf) (by exact lst_cl _) (by rfl) (by rfl) (by rfl) ?_
      refine wot_o rfl (by exact opt_len_fz (by rfl) (by rfl) (by rfl)) (by rfl) (by rfl) (by rfl) ?_
      refine wot_o rfl (opt_move_c (by rfl)) (by rfl) (by rfl) (by rfl) ?_
      refine wot_nil ?_
      refine wct_loop_seq (fun (k : Nat) => k ≤ c.b.length ∧ ∀ b, b < k → ¬ BadB c x b) (fun (k : Nat) => [(2, .fp false (cls c) 0), (5, lst false (x.in_.map ofB)), (7, lst false (x.out.map ofB)), (32, lst false (reachL c)), (33, ti ((reachL c).length : Int)), (34, ti (k : Int))]) (fun (k : Nat) => []) (fun (k : Nat) => c.b.length - k) 0 (by exact ⟨rfl, rfl, rfl, rfl, rfl, rfl, trivial⟩) (by rfl) ?_ ?_
      · simp
      rintro k ⟨hk, hn⟩
      refine wct_region_seq (by simp) ?_
      refine wot_o rfl (opt_cmp (by rfl) (by rfl) (by rfl) (by rfl) (by rfl)) (by rfl) (by rfl) (by rfl) ?_
      refine wot_nil ?_
      refine wct_if_seq (by rfl) (by rfl) (fun c2 => ?_) (fun c2 => ?_)
      · (refine wct_skip_seq ?_; refine wct_block_sq ?_)
        try simp only [Int.toNat_natCast] at c2
        refine wct_region_seq (by simp) ?_
        refine wot_o rfl (opt_move (by rfl) (by rfl)) (by rfl) (by rfl) (by rfl) ?_
        refine wot_o rfl (by exact opt_index_lstN (by rfl) (by rfl) (by rfl) (by rfl) (by omega) (by rfl)) (by rfl) (by rfl) (by rfl) ?_
        refine wot_o rfl (by exact opt_load_fp_1 (by rfl) (by rfl) (by rfl)) (by rfl) (by rfl) (by rfl) ?_
        refine wot_o rfl (opt_assign (by rfl) (by rfl)) (by rfl) (by rfl) (by rfl) ?_
        refine wot_o rfl (opt_assign (by rfl) (by rfl)) (by rfl) (by rfl) (by rfl) ?_
        refine wot_nil ?_
        have hkn : k < c.b.length := by omega
        obtain ⟨hi1, hd1, hu1⟩ := hf.u hkn
        have hto0 := hf.to _ (at_mem' (xs := c.b) (k := k) hkn)
        have hto : ∀ s ∈ succT (at' c.b k).t, 0 ≤ s ∧ s < ((x.in_.map ofB).length : Int) := fun s hs => by have := hto0 s hs; omega
        refine wct_draw_seq (by kernel_rfl) (u := [(13, 9), (18, 9), (18, 14), (34, 30), (39, 30), (39, 35)]) (by kernel_rfl) ?_
        refine wtt_o rfl (opt_move (by rfl) (by rfl)) (by rfl) (by rfl) (by rfl) ?_
        refine wtt_o rfl (opt_move (by rfl) (by rfl)) (by rfl) (by rfl) (by rfl) ?_
        refine wtt_splitb (d := 40) (by rfl) (fun g2 => ?_) (fun g2 => ?_)
        · refine wtt_og rfl (by exact opt_fieldAddr_fp (by rfl) (by rfl)) (by rfl) (by rfl) (by rfl) (by rfl) (by rfl) (by rfl) ?_
          refine wtt_og rfl (by exact opt_load_fp_1 (by rfl) (by rfl) (by rfl)) (by rfl) (by rfl) (by rfl) (by rfl) (by rfl) (by rfl) ?_
          refine wtt_og rfl (opt_move (by rfl) (by rfl)) (by rfl) (by rfl) (by rfl) (by rfl) (by rfl) (by rfl) ?_
          refine wtt_og rfl (by exact opt_index_lstN (by rfl) (by rfl) (by rfl) (by rfl) (by omega) (by rfl)) (by rfl) (by rfl) (by rfl) (by rfl) (by rfl) (by rfl) ?_
          refine wtt_og rfl (by exact opt_fieldAddr_fp (by rfl) (by rfl)) (by rfl) (by rfl) (by rfl) (by rfl) (by rfl) (by rfl) ?_
          refine wtt_og (x := Enc.tv (at' c.b k).t) rfl (opt_as (by exact opt_load_fp_a (by rfl) (by rfl) (by rfl)) (by rfl)) (by rfl) (by rfl) (by rfl) (by rfl) (by rfl) (by rfl) ?_
          refine wtt_og rfl (opt_move (by rfl) (by rfl)) (by rfl) (by rfl) (by rfl) (by rfl) (by rfl) (by rfl) ?_
          refine wtt_cg hTb rfl (call_bin (by rfl) (by rfl)) (by refine Drs.cons (by exact Dr.cl (by exact Enc.cl _)) ?_; refine Drs.cons (by exact Dr.cl (by exact lst_cl _)) ?_; exact Drs.nil) (pu45 (by assumption) (by assumption) (by assumption)) (by exact Enc.cl _) (by rfl) (by rfl) (by rfl) (by rfl) (by rfl) (by rfl) ?_
          refine wtt_og rfl (opt_move (by rfl) (by rfl)) (by rfl) (by rfl) (by rfl) (by rfl) (by rfl) (by rfl) ?_
          refine wtt_og rfl (opt_move (by rfl) (by rfl)) (by rfl) (by rfl) (by rfl) (by rfl) (by rfl) (by rfl) ?_
          refine wtt_og rfl (by exact opt_index_lstN (by rfl) (by rfl) (by rfl) (by rfl) (by omega) (by rfl)) (by rfl) (by rfl) (by rfl) (by rfl) (by rfl) (by rfl) ?_
          refine wtt_og (x := Enc.tv (at' (x.out.map ofB) k)) rfl (opt_as (by exact opt_load_fp_row (by rfl) (by rfl) (by exact (wflat_len _).trans (by simp only [List.length_set, BS.h, unionL_len]))) (by rfl)) (by rfl) (by rfl) (by rfl) (by rfl) (by rfl) (by rfl) ?_
          refine wtt_cg hTb rfl (call_bin (by rfl) (by rfl)) (by refine Drs.cons (by exact Dr.cl (by exact Enc.cl _)) ?_; refine Drs.cons (by exact Dr.cl (by exact Enc.cl _)) ?_; exact Drs.nil) (pu53) (by exact Enc.cl _) (by rfl) (by rfl) (by rfl) (by rfl) (by rfl) (by rfl) ?_
          refine wtt_og rfl (opt_move (by rfl) (by rfl)) (by rfl) (by rfl) (by rfl) (by rfl) (by rfl) (by rfl) ?_
          refine wtt_og rfl (opt_move (by rfl) (by rfl)) (by rfl) (by rfl) (by rfl) (by rfl) (by rfl) (by rfl) ?_
          refine wtt_og rfl (by exact opt_index_lstN (by rfl) (by rfl) (by rfl) (by rfl) (by omega) (by rfl)) (by rfl) (by rfl) (by rfl) (by rfl) (by rfl) (by rfl) ?_
          refine wtt_og (x := Enc.tv (at' (x.out.map ofB) k)) rfl (opt_as (by exact opt_load_fp_row (by rfl) (by rfl) (by exact (wflat_len _).trans (by simp only [List.length_set, BS.h, unionL_len]))) (by rfl)) (by rfl) (by rfl) (by rfl) (by rfl) (by rfl) (by rfl) ?_
          refine wtt_og rfl (opt_neqB (by rfl) (by rfl) (by rfl) (by rfl)) (by rfl) (by rfl) (by rfl) (by rfl) (by rfl) (by rfl) ?_
          refine wtt_og rfl (opt_move (by rfl) (by rfl)) (by rfl) (by rfl) (by rfl) (by rfl) (by rfl) (by rfl) ?_
          refine wtt_split (d := 59) (by rfl) (fun g21 => ?_) (fun g21 => ?_)
          · refine wtt_sg (by rfl) (by rfl) (by rfl) (by rfl) (by rfl) (by rfl) ?_
            refine wtt_sg (by rfl) (by rfl) (by rfl) (by rfl) (by rfl) (by rfl) ?_
            refine wtt_sg (by rfl) (by rfl) (by rfl) (by rfl) (by rfl) (by rfl) ?_
            refine wtt_sg (by rfl) (by rfl) (by rfl) (by rfl) (by rfl) (by rfl) ?_
            refine wtt_sg (by rfl) (by rfl) (by rfl) (by rfl) (by rfl) (by rfl) ?_
            refine wtt_sg (by rfl) (by rfl) (by rfl) (by rfl) (by rfl) (by rfl) ?_
            refine wtt_sg (by rfl) (by rfl) (by rfl) (by rfl) (by rfl) (by rfl) ?_
            refine wtt_sg (by rfl) (by rfl) (by rfl) (by rfl) (by rfl) (by rfl) ?_
            refine wtt_sg (by rfl) (by rfl) (by rfl) (by rfl) (by rfl) (by rfl) ?_
            refine wtt_sg (by rfl) (by rfl) (by rfl) (by rfl) (by rfl) (by rfl) ?_
            refine wtt_sg (by rfl) (by rfl) (by rfl) (by rfl) (by rfl) (by rfl) ?_
            refine wtt_sg (by rfl) (by rfl) (by rfl) (by rfl) (by rfl) (by rfl) ?_
            refine wtt_sg (by rfl) (by rfl) (by rfl) (by rfl) (by rfl) (by rfl) ?_
            refine wtt_sg (by rfl) (by rfl) (by rfl) (by rfl) (by rfl) (by rfl) ?_
            refine wtt_sg (by rfl) (by rfl) (by rfl) (by rfl) (by rfl) (by rfl) ?_
            refine wtt_sg (by rfl) (by rfl) (by rfl) (by rfl) (by rfl) (by rfl) ?_
            refine wtt_sg (by rfl) (by rfl) (by rfl) (by rfl) (by rfl) (by rfl) ?_
            refine wtt_sg (by rfl) (by rfl) (by rfl) (by rfl) (by rfl) (by rfl) ?_
            refine wtt_sg (by rfl) (by rfl) (by rfl) (by rfl) (by rfl) (by rfl) ?_
            refine wtt_sg (by rfl) (by rfl) (by rfl) (by rfl) (by rfl) (by rfl) ?_
            refine wtt_og rfl (by exact opt_pick_t (by rfl) (by rfl) (by rfl) (by rfl) (by rfl) (by rfl) (by rfl)) (by rfl) (by rfl) (by rfl) (by rfl) (by rfl) (by rfl) ?_
            refine wtt_o rfl (by exact opt_pick_t (by rfl) (by rfl) (by rfl) (by rfl) (by rfl) (by rfl) (by rfl)) (by rfl) (by rfl) (by rfl) ?_
            refine wtt_nil ?_
            refine ⟨⟨(by exact ChkT.fp (by rfl) (by rfl) (by rfl) (by rfl) (by rfl)), (by exact ChkT.fp (by rfl) (by rfl) (by rfl) (by rfl) (by rfl)), (by exact ChkT.fp (by rfl) (by rfl) (by rfl) (by rfl) (by rfl)), (by exact ChkT.skip (by rfl) (by rfl) (by rfl) (by rfl) (by rfl) (by rfl)), (by exact ChkT.skip (by rfl) (by rfl) (by rfl) (by rfl) (by rfl) (by rfl)), (by exact ChkT.skip (by rfl) (by rfl) (by rfl) (by rfl) (by rfl) (by rfl)), trivial⟩, ?_⟩
            refine wct_tt (by rfl) (by rfl) ?_
            refine wct_region_seq (by simp) ?_
            refine wot_o rfl (opt_assign_c (by rfl)) (by rfl) (by rfl) (by rfl) ?_
            refine wot_nil ?_
            (refine wct_ret ?_; refine qbt_ret ?_; refine qst_ret ?_; refine qst_ret ?_; refine qbt_ret ?_; refine qst_ret ?_)
            refine fin_1c (by simp) rfl (by rfl) (by exact Cl.v _) ?_
            rw [if_neg fun h => (BadB.no ⟨g2, fun h => g21 ((hoks.chk1 hf hkn).2 h.1)⟩ hkn) h]
          · refine wtt_og rfl (by exact opt_fieldAddr_fp (by rfl) (by rfl)) (by rfl) (by rfl) (by rfl) (by rfl) (by rfl) (by rfl) ?_
            refine wtt_og rfl (by exact opt_load_fp_1 (by rfl) (by rfl) (by rfl)) (by rfl) (by rfl) (by rfl) (by rfl) (by rfl) (by rfl) ?_
            refine wtt_og rfl (opt_move (by rfl) (by rfl)) (by rfl) (by rfl) (by rfl) (by rfl) (by rfl) (by rfl) ?_
            refine wtt_og rfl (by exact opt_index_lstN (by rfl) (by rfl) (by rfl) (by rfl) (by omega) (by rfl)) (by rfl) (by rfl) (by rfl) (by rfl) (by rfl) (by rfl) ?_
            refine wtt_og (x := Enc.tv (at' c.b k)) rfl (opt_as (by exact opt_load_fp_row (by rfl) (by rfl) (by rfl)) (by rfl)) (by rfl) (by rfl) (by rfl) (by rfl) (by rfl) (by rfl) ?_
            refine wtt_og rfl (opt_move (by rfl) (by rfl)) (by rfl) (by rfl) (by rfl) (by rfl) (by rfl) (by rfl) ?_
            refine wtt_og rfl (opt_move (by rfl) (by rfl)) (by rfl) (by rfl) (by rfl) (by rfl) (by rfl) (by rfl) ?_
            refine wtt_og rfl (by exact opt_index_lstN (by rfl) (by rfl) (by rfl) (by rfl) (by omega) (by rfl)) (by rfl) (by rfl) (by rfl) (by rfl) (by rfl) (by rfl) ?_
            refine wtt_og (x := Enc.tv (at' (x.out.map ofB) k)) rfl (opt_as (by exact opt_load_fp_row (by rfl) (by rfl) (by exact (wflat_len _).trans (by simp only [List.length_set, BS.h, unionL_len]))) (by rfl)) (by rfl) (by rfl) (by rfl) (by rfl) (by rfl) (by rfl) ?_
            refine wtt_cg hTb rfl (call_bin (by rfl) (by rfl)) (by refine Drs.cons (by exact Dr.cl (by exact Enc.cl _)) ?_; refine Drs.cons (by exact Dr.cl (by exact Enc.cl _)) ?_; refine Drs.cons (by exact Dr.cl (by exact Cl.v _)) ?_; exact Drs.nil) (pu46 (k := 0) (Nat.zero_le _) hi1) (by exact Enc.cl _) (by rfl) (by rfl) (by rfl) (by rfl) (by rfl) (by rfl) ?_
            refine wtt_og rfl (opt_move (by rfl) (by rfl)) (by rfl) (by rfl) (by rfl) (by rfl) (by rfl) (by rfl) ?_
            refine wtt_og rfl (opt_move (by rfl) (by rfl)) (by rfl) (by rfl) (by rfl) (by rfl) (by rfl) (by rfl) ?_
            refine wtt_og rfl (by exact opt_index_lstN (by rfl) (by rfl) (by rfl) (by rfl) (by omega) (by rfl)) (by rfl) (by rfl) (by rfl) (by rfl) (by rfl) (by rfl) ?_
            refine wtt_og (x := Enc.tv (at' (x.in_.map ofB) k)) rfl (opt_as (by exact opt_load_fp_row (by rfl) (by rfl) (by exact (wflat_len _).trans (by simp only [List.length_set, BS.h, unionL_len]))) (by rfl)) (by rfl) (by rfl) (by rfl) (by rfl) (by rfl) (by rfl) ?_
            refine wtt_cg hTb rfl (call_bin (by rfl) (by rfl)) (by refine Drs.cons (by exact Dr.cl (by exact Enc.cl _)) ?_; refine Drs.cons (by exact Dr.cl (by exact Enc.cl _)) ?_; exact Drs.nil) (pu53) (by exact Enc.cl _) (by rfl) (by rfl) (by rfl) (by rfl) (by rfl) (by rfl) ?_
            refine wtt_og rfl (opt_move (by rfl) (by rfl)) (by rfl) (by rfl) (by rfl) (by rfl) (by rfl) (by rfl) ?_
            refine wtt_og rfl (opt_move (by rfl) (by rfl)) (by rfl) (by rfl) (by rfl) (by rfl) (by rfl) (by rfl) ?_
            refine wtt_og rfl (by exact opt_index_lstN (by rfl) (by rfl) (by rfl) (by rfl) (by omega) (by rfl)) (by rfl) (by rfl) (by rfl) (by rfl) (by rfl) (by rfl) ?_
            refine wtt_og (x := Enc.tv (at' (x.in_.map ofB) k)) rfl (opt_as (by exact opt_load_fp_row (by rfl) (by rfl) (by exact (wflat_len _).trans (by simp only [List.length_set, BS.h, unionL_len]))) (by rfl)) (by rfl) (by rfl) (by rfl) (by rfl) (by rfl) (by rfl) ?_
            refine wtt_og rfl (opt_neqB (by rfl) (by rfl) (by rfl) (by rfl)) (by rfl) (by rfl) (by rfl) (by rfl) (by rfl) (by rfl) ?_
            refine wtt_og rfl (by exact opt_pick_f (by rfl) (by rfl) (by rfl) (by rfl) (by rfl) (by rfl) (by rfl)) (by rfl) (by rfl) (by rfl) (by rfl) (by rfl) (by rfl) ?_
            refine wtt_o rfl (by exact opt_pick_t (by rfl) (by rfl) (by rfl) (by rfl) (by rfl) (by rfl) (by rfl)) (by rfl) (by rfl) (by rfl) ?_
            refine wtt_nil ?_
            refine ⟨⟨(by exact ChkT.fp (by rfl) (by rfl) (by rfl) (by rfl) (by rfl)), (by exact ChkT.fp (by rfl) (by rfl) (by rfl) (by rfl) (by rfl)), (by exact ChkT.fp (by rfl) (by rfl) (by rfl) (by rfl) (by rfl)), (by exact ChkT.fp (by rfl) (by rfl) (by rfl) (by rfl) (by rfl)), (by exact ChkT.fp (by rfl) (by rfl) (by rfl) (by rfl) (by rfl)), (by exact ChkT.fp (by rfl) (by rfl) (by rfl) (by rfl) (by rfl)), trivial⟩, ?_⟩
            refine wct_if (by rfl) (by rfl) (fun c3 => ?_) (fun c3 => ?_)
            · (skip)
              try simp only [Int.toNat_natCast] at c3
              refine wct_region_seq (by simp) ?_
              refine wot_o rfl (opt_assign_c (by rfl)) (by rfl) (by rfl) (by rfl) ?_
              refine wot_nil ?_
              (refine wct_ret ?_; refine qbt_ret ?_; refine qst_ret ?_; refine qst_ret ?_; refine qbt_ret ?_; refine qst_ret ?_)
              refine fin_1c (by simp) rfl (by rfl) (by exact Cl.v _) ?_
              rw [if_neg fun h => (BadB.no ⟨g2, fun h => c3 ((hoks.chk2 hf hkn).2 h.2)⟩ hkn) h]
            · (refine wct_skip ?_; refine qbt_normal ?_; refine qst_wct ?_)
              try simp only [Int.toNat_natCast] at c3
              refine wct_region (by simp) ?_
              refine wot_o rfl (opt_add (by rfl) (by rfl) (by rfl) (by rfl) (by constructor <;> omega)) (by rfl) (by rfl) (by rfl) ?_
              refine wot_o rfl (opt_move (by rfl) (by rfl)) (by rfl) (by rfl) (by rfl) ?_
              refine wot_nil ?_
              (refine qst_loop ?_)
              refine rnd (k + 1) (by (try simp only); omega) ?_ (by exact ⟨rfl, rfl, rfl, rfl, rfl, rfl, trivial⟩) (by rfl)
              try dsimp only
              refine ⟨by omega, fun b hb => ?_⟩
              rcases Nat.lt_or_ge b k with h | h
              · exact hn b h
              · obtain rfl : b = k := by omega
                exact fun h => h.2 ⟨(hoks.chk1 hf hkn).1 (Decidable.not_not.1 g21), (hoks.chk2 hf hkn).1 (Decidable.not_not.1 c3)⟩
        · refine wtt_sg (by rfl) (by rfl) (by rfl) (by rfl) (by rfl) (by rfl) ?_
          refine wtt_sg (by rfl) (by rfl) (by rfl) (by rfl) (by rfl) (by rfl) ?_
          refine wtt_sg (by rfl) (by rfl) (by rfl) (by rfl) (by rfl) (by rfl) ?_
          refine wtt_sg (by rfl) (by rfl) (by rfl) (by rfl) (by rfl) (by rfl) ?_
          refine wtt_sg (by rfl) (by rfl) (by rfl) (by rfl) (by rfl) (by rfl) ?_
          refine wtt_sg (by rfl) (by rfl) (by rfl) (by rfl) (by rfl) (by rfl) ?_
          refine wtt_sg (by rfl) (by rfl) (by rfl) (by rfl) (by rfl) (by rfl) ?_
          refine wtt_sg (by rfl) (by rfl) (by rfl) (by rfl) (by rfl) (by rfl) ?_
          refine wtt_sg (by rfl) (by rfl) (by rfl) (by rfl) (by rfl) (by rfl) ?_
          refine wtt_sg (by rfl) (by rfl) (by rfl) (by rfl) (by rfl) (by rfl) ?_
          refine wtt_sg (by rfl) (by rfl) (by rfl) (by rfl) (by rfl) (by rfl) ?_
          refine wtt_sg (by rfl) (by rfl) (by rfl) (by rfl) (by rfl) (by rfl) ?_
          refine wtt_sg (by rfl) (by rfl) (by rfl) (by rfl) (by rfl) (by rfl) ?_
          refine wtt_sg (by rfl) (by rfl) (by rfl) (by rfl) (by rfl) (by rfl) ?_
          refine wtt_sg (by rfl) (by rfl) (by rfl) (by rfl) (by rfl) (by rfl) ?_
          refine wtt_sg (by rfl) (by rfl) (by rfl) (by rfl) (by rfl) (by rfl) ?_
          refine wtt_sg (by rfl) (by rfl) (by rfl) (by rfl) (by rfl) (by rfl) ?_
          refine wtt_sg (by rfl) (by rfl) (by rfl) (by rfl) (by rfl) (by rfl) ?_
          refine wtt_sg (by rfl) (by rfl) (by rfl) (by rfl) (by rfl) (by rfl) ?_
          refine wtt_su (by rfl) (by rfl) (by rfl) (by rfl) (by rfl) ?_
          refine wtt_su (by rfl) (by rfl) (by rfl) (by rfl) (by rfl) ?_
          refine wtt_su (by rfl) (by rfl) (by rfl) (by rfl) (by rfl) ?_
          refine wtt_su (by rfl) (by rfl) (by rfl) (by rfl) (by rfl) ?_
          refine wtt_su (by rfl) (by rfl) (by rfl) (by rfl) (by rfl) ?_
          refine wtt_su (by rfl) (by rfl) (by rfl) (by rfl) (by rfl) ?_
          refine wtt_su (by rfl) (by rfl) (by rfl) (by rfl) (by rfl) ?_
          refine wtt_su (by rfl) (by rfl) (by rfl) (by rfl) (by rfl) ?_
          refine wtt_su (by rfl) (by rfl) (by rfl) (by rfl) (by rfl) ?_
          refine wtt_su (by rfl) (by rfl) (by rfl) (by rfl) (by rfl) ?_
          refine wtt_su (by rfl) (by rfl) (by rfl) (by rfl) (by rfl) ?_
          refine wtt_su (by rfl) (by rfl) (by rfl) (by rfl) (by rfl) ?_
          refine wtt_su (by rfl) (by rfl) (by rfl) (by rfl) (by rfl) ?_
          refine wtt_su (by rfl) (by rfl) (by rfl) (by rfl) (by rfl) ?_
          refine wtt_su (by rfl) (by rfl) (by rfl) (by rfl) (by rfl) ?_
          refine wtt_su (by rfl) (by rfl) (by rfl) (by rfl) (by rfl) ?_
          refine wtt_su (by rfl) (by rfl) (by rfl) (by rfl) (by rfl) ?_
          refine wtt_su (by rfl) (by rfl) (by rfl) (by rfl) (by rfl) ?_
          refine wtt_su (by rfl) (by rfl) (by rfl) (by rfl) (by rfl) ?_
          refine wtt_su (by rfl) (by rfl) (by rfl) (by rfl) (by rfl) ?_
          refine wtt_sg (by rfl) (by rfl) (by rfl) (by rfl) (by rfl) (by rfl) ?_
          refine wtt_o rfl (by exact opt_pick_f (by rfl) (by rfl) (by rfl) (by rfl) (by rfl) (by rfl) (by rfl)) (by rfl) (by rfl) (by rfl) ?_
          refine wtt_nil ?_
          refine ⟨⟨(by exact ChkT.skip (by rfl) (by rfl) (by rfl) (by rfl) (by rfl) (by rfl)), (by exact ChkT.skip (by rfl) (by rfl) (by rfl) (by rfl) (by rfl) (by rfl)), (by exact ChkT.skip (by rfl) (by rfl) (by rfl) (by rfl) (by rfl) (by rfl)), (by exact ChkT.skipu (by rfl) (by rfl) (by rfl) (by rfl) (by rfl)), (by exact ChkT.skipu (by rfl) (by rfl) (by rfl) (by rfl) (by rfl)), (by exact ChkT.skipu (by rfl) (by rfl) (by rfl) (by rfl) (by rfl)), trivial⟩, ?_⟩
          refine wct_ff (by rfl) (by rfl) ?_
          (refine wct_skip ?_; refine qbt_normal ?_; refine qst_wct ?_)
          refine wct_region (by simp) ?_
          refine wot_o rfl (opt_add (by rfl) (by rfl) (by rfl) (by rfl) (by constructor <;> omega)) (by rfl) (by rfl) (by rfl) ?_
          refine wot_o rfl (opt_move (by rfl) (by rfl)) (by rfl) (by rfl) (by rfl) ?_
          refine wot_nil ?_
          (refine qst_loop ?_)
          refine rnd (k + 1) (by (try simp only); omega) ?_ (by exact ⟨rfl, rfl, rfl, rfl, rfl, rfl, trivial⟩) (by rfl)
          try dsimp only
          refine ⟨by omega, fun b hb => ?_⟩
          rcases Nat.lt_or_ge b k with h | h
          · exact hn b h
          · obtain rfl : b = k := by omega
            exact fun h => by have := h.1; simp_all
      · (refine wct_exit_seq ?_; refine qst_exit ?_; refine qbt_same ?_; refine qst_wct ?_)
        try simp only [Int.toNat_natCast] at c2
        refine wct_region_seq (by simp) ?_
        refine wot_o rfl (opt_assign_c (by rfl)) (by rfl) (by rfl) (by rfl) ?_
        refine wot_nil ?_
        (refine wct_ret ?_)
        refine fin_1c (by simp) rfl (by rfl) (by exact Cl.v _) ?_
        rw [if_pos (hoks.closed fun b hb => hn b (by omega))]
theorem pu22 {c : Code} {x : Live} {b i : Int} (hf : Fit c) (hx : x.out.length = c.b.length) (hl : ∀ l ∈ x.out, LiOk c.regs l) : Pu Tryd.prog 22 [Enc.tv c, Enc.tv x, ti b, ti i] (Eq (lst false (at15 c x b i))) := by
  refine pu_fn fn22 (by rfl) (by rfl) (by rfl) fun X hX hTb => ?_
  refine wct_region_seq (by simp) ?_
  refine wot_o rfl (opt_box_fz (by rfl) (by rfl) (by trivial)) (by rfl) (by rfl) (by rfl) ?_
  refine wot_o rfl (opt_box_fz (by rfl) (by rfl) (by trivial)) (by rfl) (by rfl) (by rfl) ?_
  refine wot_o rfl (opt_assign_c (by rfl)) (by rfl) (by rfl) (by rfl) ?_
  refine wot_nil ?_
  (refine wct_assoc ?_)
  refine wct_region_seq (by simp) ?_
  refine wot_o rfl (opt_move (by rfl) (by rfl)) (by rfl) (by rfl) (by rfl) ?_
  refine wot_o rfl (opt_cmp (by rfl) (by rfl) (by rfl) (by rfl) (by rfl)) (by rfl) (by rfl) (by rfl) ?_
  refine wot_o rfl (opt_move (by rfl) (by rfl)) (by rfl) (by rfl) (by rfl) ?_
  refine wot_split (d := 11) (by rfl) (fun g3 => ?_) (fun g3 => ?_)
  · refine wot_sg (by rfl) (by rfl) (by rfl) (by rfl) (by rfl) (by rfl) ?_
    refine wot_sg (by rfl) (by rfl) (by rfl) (by rfl) (by rfl) (by rfl) ?_
    refine wot_sg (by rfl) (by rfl) (by rfl) (by rfl) (by rfl) (by rfl) ?_
    refine wot_sg (by rfl) (by rfl) (by rfl) (by rfl) (by rfl) (by rfl) ?_
    refine wot_sg (by rfl) (by rfl) (by rfl) (by rfl) (by rfl) (by rfl) ?_
    refine wot_o rfl (by exact opt_pick_t (by rfl) (by rfl) (by rfl) (by rfl) (by rfl) (by rfl) (by rfl)) (by rfl) (by rfl) (by rfl) ?_
    refine wot_o rfl (opt_move (by rfl) (by rfl)) (by rfl) (by rfl) (by rfl) ?_
    refine wot_sg (by rfl) (by rfl) (by rfl) (by rfl) (by rfl) (by rfl) ?_
    refine wot_sg (by rfl) (by rfl) (by rfl) (by rfl) (by rfl) (by rfl) ?_
    refine wot_o rfl (by exact opt_pick_t (by rfl) (by rfl) (by rfl) (by rfl) (by rfl) (by rfl) (by rfl)) (by rfl) (by rfl) (by rfl) ?_
    refine wot_o rfl (opt_move (by rfl) (by rfl)) (by rfl) (by rfl) (by rfl) ?_
    refine wot_sg (by rfl) (by rfl) (by rfl) (by rfl) (by rfl) (by rfl) ?_
    refine wot_sg (by rfl) (by rfl) (by rfl) (by rfl) (by rfl) (by rfl) ?_
    refine wot_sg (by rfl) (by rfl) (by rfl) (by rfl) (by rfl) (by rfl) ?_
    refine wot_sg (by rfl) (by rfl) (by rfl) (by rfl) (by rfl) (by rfl) ?_
    refine wot_sg (by rfl) (by rfl) (by rfl) (by rfl) (by rfl) (by rfl) ?_
    refine wot_sg (by rfl) (by rfl) (by rfl) (by rfl) (by rfl) (by rfl) ?_
    refine wot_sg (by rfl) (by rfl) (by rfl) (by rfl) (by rfl) (by rfl) ?_
    refine wot_sg (by rfl) (by rfl) (by rfl) (by rfl) (by rfl) (by rfl) ?_
    refine wot_sg (by rfl) (by rfl) (by rfl) (by rfl) (by rfl) (by rfl) ?_
    refine wot_o rfl (by exact opt_pick_t (by rfl) (by rfl) (by rfl) (by rfl) (by rfl) (by rfl) (by rfl)) (by rfl) (by rfl) (by rfl) ?_
    refine wot_nil ?_
    refine wct_tt_seq (by rfl) (by rfl) ?_
    (refine wct_assoc ?_)
    refine wct_region_seq (by simp) ?_
    refine wot_o rfl (opt_assign_nl (α := Int) (t := false) rfl (by rfl)) (by rfl) (by rfl) (by rfl) ?_
    refine wot_nil ?_
    (refine wct_ret_seq ?_)
    refine fin_1c (by simp) rfl (by rfl) (by exact lst_cl _) ?_
    rw [at15, if_pos (.inl g3)]
  · refine wot_og rfl (opt_move (by rfl) (by rfl)) (by rfl) (by rfl) (by rfl) (by rfl) (by rfl) (by rfl) ?_
    refine wot_og rfl (by exact opt_fieldAddr_fp (by rfl) (by rfl)) (by rfl) (by rfl) (by rfl) (by rfl) (by rfl) (by rfl) ?_
    refine wot_og rfl (by exact opt_load_fp_1 (by rfl) (by rfl) (by rfl)) (by rfl) (by rfl) (by rfl) (by rfl) (by rfl) (by rfl) ?_
    refine wot_og rfl (by exact opt_len_fz (by rfl) (by rfl) (by rfl)) (by rfl) (by rfl) (by rfl) (by rfl) (by rfl) (by rfl) ?_
    refine wot_og rfl (opt_cmp (by rfl) (by rfl) (by rfl) (by rfl) (by rfl)) (by rfl) (by rfl) (by rfl) (by rfl) (by rfl) (by rfl) ?_
    refine wot_o rfl (by exact opt_pick_f (by rfl) (by rfl) (by rfl) (by rfl) (by rfl) (by rfl) (by rfl)) (by rfl) (by rfl) (by rfl) ?_
    refine wot_o rfl (opt_move (by rfl) (by rfl)) (by rfl) (by rfl) (by rfl) ?_
    refine wot_split (d := 18) (by rfl) (fun g10 => ?_) (fun g10 => ?_)
    · refine wot_sg (by rfl) (by rfl) (by rfl) (by rfl) (by rfl) (by rfl) ?_
      refine wot_sg (by rfl) (by rfl) (by rfl) (by rfl) (by rfl) (by rfl) ?_
      refine wot_o rfl (by exact opt_pick_t (by rfl) (by rfl) (by rfl) (by rfl) (by rfl) (by rfl) (by rfl)) (by rfl) (by rfl) (by rfl) ?_
      refine wot_o rfl (opt_move (by rfl) (by rfl)) (by rfl) (by rfl) (by rfl) ?_
      refine wot_sg (by rfl) (by rfl) (by rfl) (by rfl) (by rfl) (by rfl) ?_
      refine wot_sg (by rfl) (by rfl) (by rfl) (by rfl) (by rfl) (by rfl) ?_
      refine wot_sg (by rfl) (by rfl) (by rfl) (by rfl) (by rfl) (by rfl) ?_
      refine wot_sg (by rfl) (by rfl) (by rfl) (by rfl) (by rfl) (by rfl) ?_
      refine wot_sg (by rfl) (by rfl) (by rfl) (by rfl) (by rfl) (by rfl) ?_
      refine wot_sg (by rfl) (by rfl) (by rfl) (by rfl) (by rfl) (by rfl) ?_
      refine wot_sg (by rfl) (by rfl) (by rfl) (by rfl) (by rfl) (by rfl) ?_
      refine wot_sg (by rfl) (by rfl) (by rfl) (by rfl) (by rfl) (by rfl) ?_
      refine wot_sg (by rfl) (by rfl) (by rfl) (by rfl) (by rfl) (by rfl) ?_
      refine wot_o rfl (by exact opt_pick_t (by rfl) (by rfl) (by rfl) (by rfl) (by rfl) (by rfl) (by rfl)) (by rfl) (by rfl) (by rfl) ?_
      refine wot_nil ?_
      refine wct_tt_seq (by rfl) (by rfl) ?_
      (refine wct_assoc ?_)
      refine wct_region_seq (by simp) ?_
      refine wot_o rfl (opt_assign_nl (α := Int) (t := false) rfl (by rfl)) (by rfl) (by rfl) (by rfl) ?_
      refine wot_nil ?_
      (refine wct_ret_seq ?_)
      refine fin_1c (by simp) rfl (by rfl) (by exact lst_cl _) ?_
      rw [at15, if_pos (.inr (.inl g10))]
    · refine wot_og rfl (opt_move (by rfl) (by rfl)) (by rfl) (by rfl) (by rfl) (by rfl) (by rfl) (by rfl) ?_
      refine wot_og rfl (opt_cmp (by rfl) (by rfl) (by rfl) (by rfl) (by rfl)) (by rfl) (by rfl) (by rfl) (by rfl) (by rfl) (by rfl) ?_
      refine wot_o rfl (by exact opt_pick_f (by rfl) (by rfl) (by rfl) (by rfl) (by rfl) (by rfl) (by rfl)) (by rfl) (by rfl) (by rfl) ?_
      refine wot_o rfl (opt_move (by rfl) (by rfl)) (by rfl) (by rfl) (by rfl) ?_
      refine wot_split (d := 22) (by rfl) (fun g14 => ?_) (fun g14 => ?_)
      · refine wot_sg (by rfl) (by rfl) (by rfl) (by rfl) (by rfl) (by rfl) ?_
        refine wot_sg (by rfl) (by rfl) (by rfl) (by rfl) (by rfl) (by rfl) ?_
        refine wot_sg (by rfl) (by rfl) (by rfl) (by rfl) (by rfl) (by rfl) ?_
        refine wot_sg (by rfl) (by rfl) (by rfl) (by rfl) (by rfl) (by rfl) ?_
        refine wot_sg (by rfl) (by rfl) (by rfl) (by rfl) (by rfl) (by rfl) ?_
        refine wot_sg (by rfl) (by rfl) (by rfl) (by rfl) (by rfl) (by rfl) ?_
        refine wot_sg (by rfl) (by rfl) (by rfl) (by rfl) (by rfl) (by rfl) ?_
        refine wot_sg (by rfl) (by rfl) (by rfl) (by rfl) (by rfl) (by rfl) ?_
        refine wot_sg (by rfl) (by rfl) (by rfl) (by rfl) (by rfl) (by rfl) ?_
        refine wot_o rfl (by exact opt_pick_t (by rfl) (by rfl) (by rfl) (by rfl) (by rfl) (by rfl) (by rfl)) (by rfl) (by rfl) (by rfl) ?_
        refine wot_nil ?_
        refine wct_tt_seq (by rfl) (by rfl) ?_
        (refine wct_assoc ?_)
        refine wct_region_seq (by simp) ?_
        refine wot_o rfl (opt_assign_nl (α := Int) (t := false) rfl (by rfl)) (by rfl) (by rfl) (by rfl) ?_
        refine wot_nil ?_
        (refine wct_ret_seq ?_)
        refine fin_1c (by simp) rfl (by rfl) (by exact lst_cl _) ?_
        rw [at15, if_pos (.inr (.inr (.inl g14)))]
      · refine wot_og rfl (opt_move (by rfl) (by rfl)) (by rfl) (by rfl) (by rfl) (by rfl) (by rfl) (by rfl) ?_
        refine wot_og rfl (by exact opt_fieldAddr_fp (by rfl) (by rfl)) (by rfl) (by rfl) (by rfl) (by rfl) (by rfl) (by rfl) ?_
        refine wot_og rfl (by exact opt_load_fp_1 (by rfl) (by rfl) (by rfl)) (by rfl) (by rfl) (by rfl) (by rfl) (by rfl) (by rfl) ?_
        refine wot_og rfl (opt_move (by rfl) (by rfl)) (by rfl) (by rfl) (by rfl) (by rfl) (by rfl) (by rfl) ?_
        refine wot_og rfl (by exact opt_index_lst (by rfl) (by rfl) (by rfl) (by rfl) (by omega) (by omega) (by rfl)) (by rfl) (by rfl) (by rfl) (by rfl) (by rfl) (by rfl) ?_
        refine wot_og rfl (by exact opt_fieldAddr_fp (by rfl) (by rfl)) (by rfl) (by rfl) (by rfl) (by rfl) (by rfl) (by rfl) ?_
        refine wot_og rfl (by exact opt_load_fp_1 (by rfl) (by rfl) (by rfl)) (by rfl) (by rfl) (by rfl) (by rfl) (by rfl) (by rfl) ?_
        refine wot_og rfl (by exact opt_len_fz (by rfl) (by rfl) (by rfl)) (by rfl) (by rfl) (by rfl) (by rfl) (by rfl) (by rfl) ?_
        refine wot_og rfl (opt_cmp (by rfl) (by rfl) (by rfl) (by rfl) (by rfl)) (by rfl) (by rfl) (by rfl) (by rfl) (by rfl) (by rfl) ?_
        refine wot_o rfl (by exact opt_pick_f (by rfl) (by rfl) (by rfl) (by rfl) (by rfl) (by rfl) (by rfl)) (by rfl) (by rfl) (by rfl) ?_
        refine wot_nil ?_
        refine wct_if_seq (by rfl) (by rfl) (fun c1 => ?_) (fun c1 => ?_)
        · (refine wct_assoc ?_)
          try simp only [Int.toNat_natCast] at c1
          refine wct_region_seq (by simp) ?_
          refine wot_o rfl (opt_assign_nl (α := Int) (t := false) rfl (by rfl)) (by rfl) (by rfl) (by rfl) ?_
          refine wot_nil ?_
          (refine wct_ret_seq ?_)
          refine fin_1c (by simp) rfl (by rfl) (by exact lst_cl _) ?_
          rw [at15, if_pos (.inr (.inr (.inr c1)))]
        · (refine wct_skip_seq ?_)
          try simp only [Int.toNat_natCast] at c1
          have hkn : b.toNat < c.b.length := by omega
          obtain ⟨hi1, hd1, hu1⟩ := hf.u hkn
          have ho := hl _ (at_mem' (xs := x.out) (k := b.toNat) (by omega))
          have ho2 := ho.lt hf.rg.2
          obtain ⟨k, rfl⟩ : ∃ k : Nat, i = k := ⟨i.toNat, by omega⟩
          refine wct_draw_seq (by kernel_rfl) (u := [(1, 10), (4, 10)]) (by kernel_rfl) ?_
          refine wtt_o rfl (by exact opt_fieldAddr_fp (by rfl) (by rfl)) (by rfl) (by rfl) (by rfl) ?_
          refine wtt_o rfl (by exact opt_load_fp_1 (by rfl) (by rfl) (by rfl)) (by rfl) (by rfl) (by rfl) ?_
          refine wtt_o rfl (opt_move (by rfl) (by rfl)) (by rfl) (by rfl) (by rfl) ?_
          refine wtt_o rfl (by exact opt_index_lst (by rfl) (by rfl) (by rfl) (by rfl) (by omega) (by omega) (by rfl)) (by rfl) (by rfl) (by rfl) ?_
          refine wtt_o (x := Enc.tv (at' c.b b.toNat)) rfl (opt_as (by exact opt_load_fp_row (by rfl) (by rfl) (by rfl)) (by rfl)) (by rfl) (by rfl) (by rfl) ?_
          refine wtt_o rfl (by exact opt_fieldAddr_fp (by rfl) (by rfl)) (by rfl) (by rfl) (by rfl) ?_
          refine wtt_o rfl (by exact opt_load_fp_1 (by rfl) (by rfl) (by rfl)) (by rfl) (by rfl) (by rfl) ?_
          refine wtt_o rfl (opt_move (by rfl) (by rfl)) (by rfl) (by rfl) (by rfl) ?_
          refine wtt_o rfl (by exact opt_index_lst (by rfl) (by rfl) (by rfl) (by rfl) (by omega) (by omega) (by rfl)) (by rfl) (by rfl) (by rfl) ?_
          refine wtt_o rfl (by exact opt_load_fp_1 (by rfl) (by rfl) (by rfl)) (by rfl) (by rfl) (by rfl) ?_
          refine wtt_c hTb rfl (call_bin (by rfl) (by rfl)) (by refine Drs.cons (by exact Dr.cl (by exact lst_cl _)) ?_; exact Drs.nil) (pu55 (by assumption)) (by exact Enc.cl _) (by rfl) (by rfl) (by rfl) ?_
          refine wtt_o rfl (opt_move (by rfl) (by rfl)) (by rfl) (by rfl) (by rfl) ?_
          refine wtt_c hTb rfl (call_bin (by rfl) (by rfl)) (by refine Drs.cons (by exact Dr.cl (by exact Enc.cl _)) ?_; refine Drs.cons (by exact Dr.cl (by exact Enc.cl _)) ?_; refine Drs.cons (by exact Dr.cl (by exact Cl.v _)) ?_; exact Drs.nil) (pu46 (by omega) (by assumption)) (by exact Enc.cl _) (by rfl) (by rfl) (by rfl) ?_
          refine wtt_c hTb rfl (call_bin (by rfl) (by rfl)) (by refine Drs.cons (by exact Dr.cl (by exact Enc.cl _)) ?_; exact Drs.nil) (pu47) (by exact lst_cl _) (by rfl) (by rfl) (by rfl) ?_
          refine wtt_o rfl (opt_assign (by rfl) (by rfl)) (by rfl) (by rfl) (by rfl) ?_
          refine wtt_nil ?_
          refine ⟨⟨(by exact ChkT.fp (by rfl) (by rfl) (by rfl) (by rfl) (by rfl)), (by exact ChkT.fp (by rfl) (by rfl) (by rfl) (by rfl) (by rfl)), trivial⟩, ?_⟩
          (refine wct_ret ?_)
          refine fin_1c (by simp) rfl (by rfl) (by exact lst_cl _) ?_
          rw [at15, if_neg (by omega)]
          rw [listB_at hf hkn ho]; rfl
end Go.Ab
