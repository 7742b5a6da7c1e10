/- The road to a card of this seat: G26. Each theorem holds for every input that its own premises speak of. -/
import Derived.Test.YtaaeeiheeihjaaaDoorG25
set_option linter.all false
namespace Go.Ab
open Go.Proofs
theorem im101 {Z : Root} {L : List U8} {s : MS} {ex : List Root} {b : Bool} (hp : s.pos ≤ 2 ^ 39) (hL : LOk L) (h0 : 0 < s.bs.length) (hbl : s.bs.length ≤ 2 ^ 19) (hil : ∀ b ∈ s.bs, b.i.length ≤ 2 ^ 19) (har : s.arrs.length = 5) : Im Tryd.prog 101 [.pt 1 0 0, tb b] (mR Z L s ++ ex) (fun r Th' e => (∃ (n v : Int) (i : Inst) (gar : List Root), r = .tup [ti n, Enc.tv (rO v)] ∧ (0 ≤ v ∧ v < 6) ∧ IOk 6 i ∧ Th' = mR Z L (s.adv.adv.adv.put i) ++ (ex ++ gar)) ∧ e = allD (s.bs.length + 4 + ex.length)) := by
  refine im_fn (allD (s.bs.length + 4 + ex.length)) fn101 (by rfl) (by rfl) (by rfl) fun X hX hF hTb => ?_
  have hXF : X.f = allD X.p.length := by rw [hF, hX, List.length_append, mR_len]
  refine wct_region_seq (by simp) ?_
  refine wot_o rfl (opt_assign_c (by rfl)) (by rfl) (by rfl) (by rfl) ?_
  refine wot_o rfl (opt_alloc (by rfl)) (by rfl) (by rfl) (by rfl) ?_
  refine wot_nil ?_
  rw [List.append_assoc]
  generalize hn : (mR Z L s ++ ex).length = n at hX ⊢
  have hput : ∀ i, n = (mR Z L (s.adv.adv.adv.put i) ++ ex).length := fun i => by rw [← hn]; simp only [List.length_append, mR_len, put_len]; rfl
  refine wct_region_seq (by simp) ?_
  refine wot_o rfl (opt_move (by rfl) (by rfl)) (by rfl) (by rfl) (by rfl) ?_
  refine wot_ci hTb rfl (call_bin (by rfl) (by rfl)) (im35 (by omega) hL) (fun _ _ _ h => h.2) (allD_ok hXF _) (by rfl) (by rfl) (by rfl) ?_
  rintro r Th' ⟨⟨⟨v, rfl, hv⟩, rfl⟩, _⟩
  refine wot_o rfl (by exact opt_remNC (by rfl) (by rfl) (by rfl) (by rfl)) (by rfl) (by rfl) (by rfl) ?_
  refine wot_o rfl (opt_assign (by rfl) (by rfl)) (by rfl) (by rfl) (by rfl) ?_
  refine wot_nil ?_
  (refine wct_assoc ?_)
  refine wct_region_seq (by simp) ?_
  refine wot_o rfl (opt_move (by rfl) (by rfl)) (by rfl) (by rfl) (by rfl) ?_
  refine wot_o rfl (opt_cmp (by rfl) (by rfl) (by rfl) (by rfl) (by rfl)) (by rfl) (by rfl) (by rfl) ?_
  refine wot_o rfl (opt_move (by rfl) (by rfl)) (by rfl) (by rfl) (by rfl) ?_
  refine wot_split (d := 13) (by rfl) (fun g3 => ?_) (fun g3 => ?_)
  · refine wot_og rfl (opt_move (by rfl) (by rfl)) (by rfl) (by rfl) (by rfl) (by rfl) (by rfl) (by rfl) ?_
    refine wot_og rfl (opt_not (by rfl) (by rfl)) (by rfl) (by rfl) (by rfl) (by rfl) (by rfl) (by rfl) ?_
    refine wot_o rfl (by exact opt_pick_t (by rfl) (by rfl) (by rfl) (by rfl) (by rfl) (by rfl) (by rfl)) (by rfl) (by rfl) (by rfl) ?_
    refine wot_nil ?_
    refine wct_ifb_seq (by rfl) (by rfl) (fun c1 => ?_) (fun c1 => ?_)
    · (skip)
      try simp only [Int.toNat_natCast] at c1
      refine wct_region_seq (by simp) ?_
      refine wot_o rfl (opt_assign_c (by rfl)) (by rfl) (by rfl) (by rfl) ?_
      refine wot_nil ?_
      refine wct_region_seq (by simp) ?_
      refine wot_o rfl (opt_move (by rfl) (by rfl)) (by rfl) (by rfl) (by rfl) ?_
      refine wot_ci hTb rfl (call_bin (by rfl) (by rfl)) (im40 (by (simp only [adv_pos, put_pos]; omega)) hL) (fun _ _ _ h => h.2) (allD_ok hXF _) (by rfl) (by rfl) (by rfl) ?_
      rintro r Th' ⟨⟨⟨w, rfl, hw⟩, g1, rfl⟩, _⟩
      refine wot_o rfl (opt_alloc (by rfl)) (by rfl) (by rfl) (by rfl) ?_
      refine wot_of0 rfl (opt_store_end (ex := []) rfl rfl (by rfl) (by rfl) (by rfl) (by rfl) (by trivial) (by exact Enc.len _) (by rfl) (by rfl)) (allD_ok hXF _) (by rfl) (by rfl) ?_
      refine wot_nil ?_
      refine wct_ghost (g_freeze (d := 7) rfl (by rw [Nat.ble_eq, hX, ← hn]; simp only [List.length_append, mR_len]; have : s.adv.adv.bs.length = s.bs.length := rfl; omega) (end_get rfl) (Fz.pt (by rw [Enc.len]; exact Enc.pos))) ?_
      rw [end_set rfl, List.append_assoc (mR Z L s.adv.adv)]
      refine wct_draw_seq (by kernel_rfl) (u := [(1, 3), (1, 15), (8, 3), (12, 3)]) (by kernel_rfl) ?_
      refine wtt_o rfl (opt_move (by rfl) (by rfl)) (by rfl) (by rfl) (by rfl) ?_
      refine wtt_o (x := Enc.tv (rO w)) rfl (opt_as (by exact opt_load_fp_row (by rfl) (by rfl) (by rfl)) (by rfl)) (by rfl) (by rfl) (by rfl) ?_
      refine wtt_o rfl (opt_move (by rfl) (by rfl)) (by rfl) (by rfl) (by rfl) ?_
      refine wtt_ci hTb rfl (call_bin (by rfl) (by rfl)) (im41 (by (simp only [adv_pos, put_pos]; omega)) hL) (fun _ _ _ h => h.2) (allD_ok hXF _) (by rfl) (by rfl) (by rfl) ?_
      rintro r Th' ⟨⟨⟨o, rfl, ho⟩, g2, rfl⟩, _⟩
      refine wtt_o rfl (opt_move (by rfl) (by rfl)) (by rfl) (by rfl) (by rfl) ?_
      refine wtt_o rfl (by exact opt_nilCheck_pt (by rfl) (by rfl) (by rfl) (by rfl)) (by rfl) (by rfl) (by rfl) ?_
      refine wtt_o rfl (by exact opt_fieldAddr_pt (by rfl) (by rfl) (by rfl) (by rfl)) (by rfl) (by rfl) (by rfl) ?_
      refine wtt_o rfl (by exact opt_fieldAddr_pt (by rfl) (by rfl) (by rfl) (by rfl)) (by rfl) (by rfl) (by rfl) ?_
      refine wtt_o rfl (by exact opt_load_pt_1 (by rfl) (by rfl) (by rfl) (by rfl)) (by rfl) (by rfl) (by rfl) ?_
      refine wtt_o rfl (opt_move (by rfl) (by rfl)) (by rfl) (by rfl) (by rfl) ?_
      refine wtt_o rfl (opt_index_lst (by rfl) (by rfl) (by rfl) (by rfl) (by omega) (by show _ < (s.arrs.length : Int); omega) (by rfl)) (by rfl) (by rfl) (by rfl) ?_
      refine wtt_o rfl (by exact opt_fieldAddr_fp (by rfl) (by rfl)) (by rfl) (by rfl) (by rfl) ?_
      refine wtt_o rfl (by exact opt_load_fp_1 (by rfl) (by rfl) (by rfl)) (by rfl) (by rfl) (by rfl) ?_
      refine wtt_o rfl (opt_ibin (by rfl) (by rfl) (by rfl) (by rfl) (by rfl) (by rfl)) (by rfl) (by rfl) (by rfl) ?_
      refine wtt_o rfl (opt_conv (by rfl) (by rfl) (conv321 _) (by rfl) (by rfl)) (by rfl) (by rfl) (by rfl) ?_
      refine wtt_c hTb rfl (call_bin (by rfl) (by rfl)) (by refine Drs.cons (by exact Dr.cl (by exact Cl.v _)) ?_; exact Drs.nil) (pu75) (by exact Enc.cl _) (by rfl) (by rfl) (by rfl) ?_
      refine wtt_o (x := Enc.tv (⟨3, 17, 0, rO w, o, kO _, zO⟩ : Inst)) rfl (opt_as (opt_build (by rfl) (by rfl) (by rfl) (by rfl)) (by rfl)) (by rfl) (by rfl) (by rfl) ?_
      refine wtt_ci hTb rfl (call_bin (by rfl) (by rfl)) (im76 h0 (by show s.bs.length ≤ _; omega) (fun b hb => by have := hil b hb; omega)) (fun _ _ _ h => h.2) (allD_ok hXF _) (by rfl) (by rfl) (by rfl) ?_
      rintro r Th' ⟨⟨rfl, rfl⟩, _⟩
      refine wtt_nil ?_
      refine ⟨⟨(by exact ChkT.fp (by rfl) (by rfl) (by rfl) (by rfl) (by rfl)), (by exact ChkT.fp (by rfl) (by rfl) (by rfl) (by rfl) (by rfl)), (by exact chk_pt (t := 30) (by rfl) (by rfl) (by rfl) (by rfl) (by rfl) (by rfl) (by rfl) (by rfl) (by rfl)), (by exact ChkT.fp (by rfl) (by rfl) (by rfl) (by rfl) (by rfl)), trivial⟩, ?_⟩
      simp only [List.append_assoc, List.cons_append, List.nil_append]
      rw [← List.append_assoc (mR Z L (s.adv.adv.adv.put _)) ex]
      refine wct_draw_seq (by kernel_rfl) (u := []) (by kernel_rfl) ?_
      refine wtt_o rfl (opt_move (by rfl) (by rfl)) (by rfl) (by rfl) (by rfl) ?_
      refine wtt_o (x := Enc.tv (rO w)) rfl (opt_as (by exact opt_load_fp_row (by rfl) (by rfl) (by rfl)) (by rfl)) (by rfl) (by rfl) (by rfl) ?_
      refine wtt_o rfl (opt_assign (by rfl) (by rfl)) (by rfl) (by rfl) (by rfl) ?_
      refine wtt_of0 rfl (opt_store_end rfl (hput _) (by rfl) (by rfl) (by rfl) (by rfl) (by trivial) (by exact Enc.len _) (by rfl) (by rfl)) (allD_ok hXF _) (by rfl) (by rfl) ?_
      refine wtt_nil ?_
      refine ⟨trivial, ?_⟩
      (refine wct_ret ?_)
      refine fini_tc (by simp) rfl (by rfl) (by rfl) (by rfl) (end_get (hput _)) (by exact Enc.len _) (by rfl) ⟨_, w, _, _, rfl, hw, ?_, by rw [List.append_assoc]⟩
      exact .mk' (okR hw (Int.le_refl 6)) ho okK okZ
    · (refine wct_skip_seq ?_)
      try simp only [Int.toNat_natCast] at c1
      refine wct_region_seq (by simp) ?_
      refine wot_o rfl (opt_move (by rfl) (by rfl)) (by rfl) (by rfl) (by rfl) ?_
      refine wot_ci hTb rfl (call_bin (by rfl) (by rfl)) (im40 (by (simp only [adv_pos, put_pos]; omega)) hL) (fun _ _ _ h => h.2) (allD_ok hXF _) (by rfl) (by rfl) (by rfl) ?_
      rintro r Th' ⟨⟨⟨w, rfl, hw⟩, g1, rfl⟩, _⟩
      refine wot_o rfl (opt_alloc (by rfl)) (by rfl) (by rfl) (by rfl) ?_
      refine wot_of0 rfl (opt_store_end (ex := []) rfl rfl (by rfl) (by rfl) (by rfl) (by rfl) (by trivial) (by exact Enc.len _) (by rfl) (by rfl)) (allD_ok hXF _) (by rfl) (by rfl) ?_
      refine wot_nil ?_
      refine wct_ghost (g_freeze (d := 7) rfl (by rw [Nat.ble_eq, hX, ← hn]; simp only [List.length_append, mR_len]; have : s.adv.adv.bs.length = s.bs.length := rfl; omega) (end_get rfl) (Fz.pt (by rw [Enc.len]; exact Enc.pos))) ?_
      rw [end_set rfl, List.append_assoc (mR Z L s.adv.adv)]
      refine wct_draw_seq (by kernel_rfl) (u := [(1, 3), (1, 15), (8, 3), (12, 3)]) (by kernel_rfl) ?_
      refine wtt_o rfl (opt_move (by rfl) (by rfl)) (by rfl) (by rfl) (by rfl) ?_
      refine wtt_o (x := Enc.tv (rO w)) rfl (opt_as (by exact opt_load_fp_row (by rfl) (by rfl) (by rfl)) (by rfl)) (by rfl) (by rfl) (by rfl) ?_
      refine wtt_o rfl (opt_move (by rfl) (by rfl)) (by rfl) (by rfl) (by rfl) ?_
      refine wtt_ci hTb rfl (call_bin (by rfl) (by rfl)) (im41 (by (simp only [adv_pos, put_pos]; omega)) hL) (fun _ _ _ h => h.2) (allD_ok hXF _) (by rfl) (by rfl) (by rfl) ?_
      rintro r Th' ⟨⟨⟨o, rfl, ho⟩, g2, rfl⟩, _⟩
      refine wtt_o rfl (opt_move (by rfl) (by rfl)) (by rfl) (by rfl) (by rfl) ?_
      refine wtt_o rfl (by exact opt_nilCheck_pt (by rfl) (by rfl) (by rfl) (by rfl)) (by rfl) (by rfl) (by rfl) ?_
      refine wtt_o rfl (by exact opt_fieldAddr_pt (by rfl) (by rfl) (by rfl) (by rfl)) (by rfl) (by rfl) (by rfl) ?_
      refine wtt_o rfl (by exact opt_fieldAddr_pt (by rfl) (by rfl) (by rfl) (by rfl)) (by rfl) (by rfl) (by rfl) ?_
      refine wtt_o rfl (by exact opt_load_pt_1 (by rfl) (by rfl) (by rfl) (by rfl)) (by rfl) (by rfl) (by rfl) ?_
      refine wtt_o rfl (opt_move (by rfl) (by rfl)) (by rfl) (by rfl) (by rfl) ?_
      refine wtt_o rfl (opt_index_lst (by rfl) (by rfl) (by rfl) (by rfl) (by omega) (by show _ < (s.arrs.length : Int); omega) (by rfl)) (by rfl) (by rfl) (by rfl) ?_
      refine wtt_o rfl (by exact opt_fieldAddr_fp (by rfl) (by rfl)) (by rfl) (by rfl) (by rfl) ?_
      refine wtt_o rfl (by exact opt_load_fp_1 (by rfl) (by rfl) (by rfl)) (by rfl) (by rfl) (by rfl) ?_
      refine wtt_o rfl (opt_ibin (by rfl) (by rfl) (by rfl) (by rfl) (by rfl) (by rfl)) (by rfl) (by rfl) (by rfl) ?_
      refine wtt_o rfl (opt_conv (by rfl) (by rfl) (conv321 _) (by rfl) (by rfl)) (by rfl) (by rfl) (by rfl) ?_
      refine wtt_c hTb rfl (call_bin (by rfl) (by rfl)) (by refine Drs.cons (by exact Dr.cl (by exact Cl.v _)) ?_; exact Drs.nil) (pu75) (by exact Enc.cl _) (by rfl) (by rfl) (by rfl) ?_
      refine wtt_o (x := Enc.tv (⟨3, 17, 0, rO w, o, kO _, zO⟩ : Inst)) rfl (opt_as (opt_build (by rfl) (by rfl) (by rfl) (by rfl)) (by rfl)) (by rfl) (by rfl) (by rfl) ?_
      refine wtt_ci hTb rfl (call_bin (by rfl) (by rfl)) (im76 h0 (by show s.bs.length ≤ _; omega) (fun b hb => by have := hil b hb; omega)) (fun _ _ _ h => h.2) (allD_ok hXF _) (by rfl) (by rfl) (by rfl) ?_
      rintro r Th' ⟨⟨rfl, rfl⟩, _⟩
      refine wtt_nil ?_
      refine ⟨⟨(by exact ChkT.fp (by rfl) (by rfl) (by rfl) (by rfl) (by rfl)), (by exact ChkT.fp (by rfl) (by rfl) (by rfl) (by rfl) (by rfl)), (by exact chk_pt (t := 30) (by rfl) (by rfl) (by rfl) (by rfl) (by rfl) (by rfl) (by rfl) (by rfl) (by rfl)), (by exact ChkT.fp (by rfl) (by rfl) (by rfl) (by rfl) (by rfl)), trivial⟩, ?_⟩
      simp only [List.append_assoc, List.cons_append, List.nil_append]
      rw [← List.append_assoc (mR Z L (s.adv.adv.adv.put _)) ex]
      refine wct_draw_seq (by kernel_rfl) (u := []) (by kernel_rfl) ?_
      refine wtt_o rfl (opt_move (by rfl) (by rfl)) (by rfl) (by rfl) (by rfl) ?_
      refine wtt_o (x := Enc.tv (rO w)) rfl (opt_as (by exact opt_load_fp_row (by rfl) (by rfl) (by rfl)) (by rfl)) (by rfl) (by rfl) (by rfl) ?_
      refine wtt_o rfl (opt_assign (by rfl) (by rfl)) (by rfl) (by rfl) (by rfl) ?_
      refine wtt_of0 rfl (opt_store_end rfl (hput _) (by rfl) (by rfl) (by rfl) (by rfl) (by trivial) (by exact Enc.len _) (by rfl) (by rfl)) (allD_ok hXF _) (by rfl) (by rfl) ?_
      refine wtt_nil ?_
      refine ⟨trivial, ?_⟩
      (refine wct_ret ?_)
      refine fini_tc (by simp) rfl (by rfl) (by rfl) (by rfl) (end_get (hput _)) (by exact Enc.len _) (by rfl) ⟨_, w, _, _, rfl, hw, ?_, by rw [List.append_assoc]⟩
      exact .mk' (okR hw (Int.le_refl 6)) ho okK okZ
  · refine wot_sg (by rfl) (by rfl) (by rfl) (by rfl) (by rfl) (by rfl) ?_
    refine wot_sg (by rfl) (by rfl) (by rfl) (by rfl) (by rfl) (by rfl) ?_
    refine wot_o rfl (by exact opt_pick_f (by rfl) (by rfl) (by rfl) (by rfl) (by rfl) (by rfl) (by rfl)) (by rfl) (by rfl) (by rfl) ?_
    refine wot_nil ?_
    refine wct_ff_seq (by rfl) (by rfl) ?_
    (refine wct_skip_seq ?_)
    refine wct_region_seq (by simp) ?_
    refine wot_o rfl (opt_move (by rfl) (by rfl)) (by rfl) (by rfl) (by rfl) ?_
    refine wot_ci hTb rfl (call_bin (by rfl) (by rfl)) (im40 (by (simp only [adv_pos, put_pos]; omega)) hL) (fun _ _ _ h => h.2) (allD_ok hXF _) (by rfl) (by rfl) (by rfl) ?_
    rintro r Th' ⟨⟨⟨w, rfl, hw⟩, g1, rfl⟩, _⟩
    refine wot_o rfl (opt_alloc (by rfl)) (by rfl) (by rfl) (by rfl) ?_
    refine wot_of0 rfl (opt_store_end (ex := []) rfl rfl (by rfl) (by rfl) (by rfl) (by rfl) (by trivial) (by exact Enc.len _) (by rfl) (by rfl)) (allD_ok hXF _) (by rfl) (by rfl) ?_
    refine wot_nil ?_
    refine wct_ghost (g_freeze (d := 7) rfl (by rw [Nat.ble_eq, hX, ← hn]; simp only [List.length_append, mR_len]; have : s.adv.adv.bs.length = s.bs.length := rfl; omega) (end_get rfl) (Fz.pt (by rw [Enc.len]; exact Enc.pos))) ?_
    rw [end_set rfl, List.append_assoc (mR Z L s.adv.adv)]
    refine wct_draw_seq (by kernel_rfl) (u := [(1, 3), (1, 15), (8, 3), (12, 3)]) (by kernel_rfl) ?_
    refine wtt_o rfl (opt_move (by rfl) (by rfl)) (by rfl) (by rfl) (by rfl) ?_
    refine wtt_o (x := Enc.tv (rO w)) rfl (opt_as (by exact opt_load_fp_row (by rfl) (by rfl) (by rfl)) (by rfl)) (by rfl) (by rfl) (by rfl) ?_
    refine wtt_o rfl (opt_move (by rfl) (by rfl)) (by rfl) (by rfl) (by rfl) ?_
    refine wtt_ci hTb rfl (call_bin (by rfl) (by rfl)) (im41 (by (simp only [adv_pos, put_pos]; omega)) hL) (fun _ _ _ h => h.2) (allD_ok hXF _) (by rfl) (by rfl) (by rfl) ?_
    rintro r Th' ⟨⟨⟨o, rfl, ho⟩, g2, rfl⟩, _⟩
    refine wtt_o rfl (opt_move (by rfl) (by rfl)) (by rfl) (by rfl) (by rfl) ?_
    refine wtt_o rfl (by exact opt_nilCheck_pt (by rfl) (by rfl) (by rfl) (by rfl)) (by rfl) (by rfl) (by rfl) ?_
    refine wtt_o rfl (by exact opt_fieldAddr_pt (by rfl) (by rfl) (by rfl) (by rfl)) (by rfl) (by rfl) (by rfl) ?_
    refine wtt_o rfl (by exact opt_fieldAddr_pt (by rfl) (by rfl) (by rfl) (by rfl)) (by rfl) (by rfl) (by rfl) ?_
    refine wtt_o rfl (by exact opt_load_pt_1 (by rfl) (by rfl) (by rfl) (by rfl)) (by rfl) (by rfl) (by rfl) ?_
    refine wtt_o rfl (opt_move (by rfl) (by rfl)) (by rfl) (by rfl) (by rfl) ?_
    refine wtt_o rfl (opt_index_lst (by rfl) (by rfl) (by rfl) (by rfl) (by omega) (by show _ < (s.arrs.length : Int); omega) (by rfl)) (by rfl) (by rfl) (by rfl) ?_
    refine wtt_o rfl (by exact opt_fieldAddr_fp (by rfl) (by rfl)) (by rfl) (by rfl) (by rfl) ?_
    refine wtt_o rfl (by exact opt_load_fp_1 (by rfl) (by rfl) (by rfl)) (by rfl) (by rfl) (by rfl) ?_
    refine wtt_o rfl (opt_ibin (by rfl) (by rfl) (by rfl) (by rfl) (by rfl) (by rfl)) (by rfl) (by rfl) (by rfl) ?_
    refine wtt_o rfl (opt_conv (by rfl) (by rfl) (conv321 _) (by rfl) (by rfl)) (by rfl) (by rfl) (by rfl) ?_
    refine wtt_c hTb rfl (call_bin (by rfl) (by rfl)) (by refine Drs.cons (by exact Dr.cl (by exact Cl.v _)) ?_; exact Drs.nil) (pu75) (by exact Enc.cl _) (by rfl) (by rfl) (by rfl) ?_
    refine wtt_o (x := Enc.tv (⟨3, 17, 0, rO w, o, kO _, zO⟩ : Inst)) rfl (opt_as (opt_build (by rfl) (by rfl) (by rfl) (by rfl)) (by rfl)) (by rfl) (by rfl) (by rfl) ?_
    refine wtt_ci hTb rfl (call_bin (by rfl) (by rfl)) (im76 h0 (by show s.bs.length ≤ _; omega) (fun b hb => by have := hil b hb; omega)) (fun _ _ _ h => h.2) (allD_ok hXF _) (by rfl) (by rfl) (by rfl) ?_
    rintro r Th' ⟨⟨rfl, rfl⟩, _⟩
    refine wtt_nil ?_
    refine ⟨⟨(by exact ChkT.fp (by rfl) (by rfl) (by rfl) (by rfl) (by rfl)), (by exact ChkT.fp (by rfl) (by rfl) (by rfl) (by rfl) (by rfl)), (by exact chk_pt (t := 30) (by rfl) (by rfl) (by rfl) (by rfl) (by rfl) (by rfl) (by rfl) (by rfl) (by rfl)), (by exact ChkT.fp (by rfl) (by rfl) (by rfl) (by rfl) (by rfl)), trivial⟩, ?_⟩
    simp only [List.append_assoc, List.cons_append, List.nil_append]
    rw [← List.append_assoc (mR Z L (s.adv.adv.adv.put _)) ex]
    refine wct_draw_seq (by kernel_rfl) (u := []) (by kernel_rfl) ?_
    refine wtt_o rfl (opt_move (by rfl) (by rfl)) (by rfl) (by rfl) (by rfl) ?_
    refine wtt_o (x := Enc.tv (rO w)) rfl (opt_as (by exact opt_load_fp_row (by rfl) (by rfl) (by rfl)) (by rfl)) (by rfl) (by rfl) (by rfl) ?_
    refine wtt_o rfl (opt_assign (by rfl) (by rfl)) (by rfl) (by rfl) (by rfl) ?_
    refine wtt_of0 rfl (opt_store_end rfl (hput _) (by rfl) (by rfl) (by rfl) (by rfl) (by trivial) (by exact Enc.len _) (by rfl) (by rfl)) (allD_ok hXF _) (by rfl) (by rfl) ?_
    refine wtt_nil ?_
    refine ⟨trivial, ?_⟩
    (refine wct_ret ?_)
    refine fini_tc (by simp) rfl (by rfl) (by rfl) (by rfl) (end_get (hput _)) (by exact Enc.len _) (by rfl) ⟨_, w, _, _, rfl, hw, ?_, by rw [List.append_assoc]⟩
    exact .mk' (okR hw (Int.le_refl 6)) ho okK okZ
theorem im77a {Z : Root} {L : List U8} {s : MS} {ex : List Root} (hp : s.pos ≤ 2 ^ 38) (hL : LOk L) (h0 : 0 < s.bs.length) (hbl : s.bs.length ≤ 2 ^ 18) (hil : ∀ b ∈ s.bs, b.i.length ≤ 2 ^ 18) (har : s.arrs.length = 5) (h6 : 6 ≤ s.regs) : Im Tryd.prog 77 [.pt 1 0 0] (mR Z L s ++ ex) (fun r Th' e => (∃ s', (∃ gar, Th' = mR Z L s' ++ (ex ++ gar)) ∧ Stp s s' 20) ∧ e = allD (s.bs.length + 4 + ex.length)) := by
  refine im_fn (allD (s.bs.length + 4 + ex.length)) fn77 (by rfl) (by rfl) (by rfl) fun X hX hF hTb => ?_
  have hXF : X.f = allD X.p.length := by rw [hF, hX, List.length_append, mR_len]
  refine wct_region_seq (by simp) ?_
  refine wot_o rfl (opt_move (by rfl) (by rfl)) (by rfl) (by rfl) (by rfl) ?_
  refine wot_ci hTb rfl (call_bin (by rfl) (by rfl)) (im35 (by omega) hL) (fun _ _ _ h => h.2) (allD_ok hXF _) (by rfl) (by rfl) (by rfl) ?_
  rintro r Th' ⟨⟨⟨v0, rfl, hv0⟩, rfl⟩, _⟩
  refine wot_o rfl (by exact opt_remNC (by rfl) (by rfl) (by rfl) (by rfl)) (by rfl) (by rfl) (by rfl) ?_
  refine wot_o rfl (opt_assign (by rfl) (by rfl)) (by rfl) (by rfl) (by rfl) ?_
  refine wot_nil ?_
  (refine wct_assoc ?_)
  refine wct_region_seq (by simp) ?_
  refine wot_o rfl (opt_move (by rfl) (by rfl)) (by rfl) (by rfl) (by rfl) ?_
  refine wot_o rfl (opt_cmp (by rfl) (by rfl) (by rfl) (by rfl) (by rfl)) (by rfl) (by rfl) (by rfl) ?_
  refine wot_nil ?_
  refine wct_if_seq (by rfl) (by rfl) (fun c1 => ?_) (fun c1 => ?_)
  · (refine wct_assoc ?_)
    try simp only [Int.toNat_natCast] at c1
    refine wct_region_seq (by simp) ?_
    refine wot_o rfl (opt_move (by rfl) (by rfl)) (by rfl) (by rfl) (by rfl) ?_
    refine wot_o rfl (opt_move (by rfl) (by rfl)) (by rfl) (by rfl) (by rfl) ?_
    refine wot_ci hTb rfl (call_bin (by rfl) (by rfl)) (im35 (by (simp only [adv_pos, put_pos]; omega)) hL) (fun _ _ _ h => h.2) (allD_ok hXF _) (by rfl) (by rfl) (by rfl) ?_
    rintro r Th' ⟨⟨⟨v1, rfl, hv1⟩, rfl⟩, _⟩
    refine wot_o rfl (by exact opt_remNC (by rfl) (by rfl) (by rfl) (by rfl)) (by rfl) (by rfl) (by rfl) ?_
    refine wot_o rfl (opt_add (by rfl) (by rfl) (by rfl) (by rfl) (by constructor <;> omega)) (by rfl) (by rfl) (by rfl) ?_
    refine wot_o rfl (opt_move (by rfl) (by rfl)) (by rfl) (by rfl) (by rfl) ?_
    refine wot_ci hTb rfl (call_bin (by rfl) (by rfl)) (im40 (by (simp only [adv_pos, put_pos]; omega)) hL) (fun _ _ _ h => h.2) (allD_ok hXF _) (by rfl) (by rfl) (by rfl) ?_
    rintro r Th' ⟨⟨⟨w1, rfl, hw1⟩, g1, rfl⟩, _⟩
    refine wot_o (x := Enc.tv (⟨5, 1 + ((v1 % 7 : Nat) : Int), 0, rO w1, zO, zO, zO⟩ : Inst)) rfl (opt_as (opt_build (by rfl) (by rfl) (by rfl) (by rfl)) (by rfl)) (by rfl) (by rfl) (by rfl) ?_
    refine wot_ci hTb rfl (call_bin (by rfl) (by rfl)) (im76 h0 (by show s.bs.length ≤ _; omega) (fun b hb => by have := hil b hb; omega)) (fun _ _ _ h => h.2) (allD_ok hXF _) (by rfl) (by rfl) (by rfl) ?_
    rintro r Th' ⟨⟨rfl, rfl⟩, _⟩
    refine wot_nil ?_
    (refine wct_ret_seq ?_)
    refine fini_0 (by simp) rfl ?_
    apply Exists.intro
    refine ⟨?_, ?_⟩
    · exact ⟨_, rfl⟩
    · refine Stp.put' ?_ h0 (.mk' (by exact okR (by assumption) h6) (by exact okZ) (by exact okZ) (by exact okZ))
      refine Stp.adv' ?_; refine Stp.adv' ?_; refine Stp.adv' ?_; exact Stp.refl _ _
  · (refine wct_skip_seq ?_; refine wct_assoc ?_)
    try simp only [Int.toNat_natCast] at c1
    refine wct_region_seq (by simp) ?_
    refine wot_o rfl (opt_move (by rfl) (by rfl)) (by rfl) (by rfl) (by rfl) ?_
    refine wot_o rfl (opt_cmp (by rfl) (by rfl) (by rfl) (by rfl) (by rfl)) (by rfl) (by rfl) (by rfl) ?_
    refine wot_nil ?_
    refine wct_if_seq (by rfl) (by rfl) (fun c2 => ?_) (fun c2 => ?_)
    · (refine wct_assoc ?_)
      try simp only [Int.toNat_natCast] at c2
      refine wct_region_seq (by simp) ?_
      refine wot_o rfl (opt_move (by rfl) (by rfl)) (by rfl) (by rfl) (by rfl) ?_
      refine wot_ci hTb rfl (call_bin (by rfl) (by rfl)) (im35 (by (simp only [adv_pos, put_pos]; omega)) hL) (fun _ _ _ h => h.2) (allD_ok hXF _) (by rfl) (by rfl) (by rfl) ?_
      rintro r Th' ⟨⟨⟨v1, rfl, hv1⟩, rfl⟩, _⟩
      refine wot_o rfl (by exact opt_remNC (by rfl) (by rfl) (by rfl) (by rfl)) (by rfl) (by rfl) (by rfl) ?_
      refine wot_o rfl (opt_add (by rfl) (by rfl) (by rfl) (by rfl) (by constructor <;> omega)) (by rfl) (by rfl) (by rfl) ?_
      refine wot_o rfl (opt_assign (by rfl) (by rfl)) (by rfl) (by rfl) (by rfl) ?_
      refine wot_nil ?_
      (refine wct_assoc ?_)
      refine wct_region_seq (by simp) ?_
      refine wot_o rfl (opt_move (by rfl) (by rfl)) (by rfl) (by rfl) (by rfl) ?_
      refine wot_o rfl (opt_move (by rfl) (by rfl)) (by rfl) (by rfl) (by rfl) ?_
      refine wot_o rfl (opt_move (by rfl) (by rfl)) (by rfl) (by rfl) (by rfl) ?_
      refine wot_ci hTb rfl (call_bin (by rfl) (by rfl)) (im40 (by (simp only [adv_pos, put_pos]; omega)) hL) (fun _ _ _ h => h.2) (allD_ok hXF _) (by rfl) (by rfl) (by rfl) ?_
      rintro r Th' ⟨⟨⟨w1, rfl, hw1⟩, g1, rfl⟩, _⟩
      refine wot_o rfl (opt_move (by rfl) (by rfl)) (by rfl) (by rfl) (by rfl) ?_
      refine wot_ci hTb rfl (call_bin (by rfl) (by rfl)) (im41 (by (simp only [adv_pos, put_pos]; omega)) hL) (fun _ _ _ h => h.2) (allD_ok hXF _) (by rfl) (by rfl) (by rfl) ?_
      rintro r Th' ⟨⟨⟨o1, rfl, ho1⟩, g2, rfl⟩, _⟩
      refine wot_o rfl (opt_move (by rfl) (by rfl)) (by rfl) (by rfl) (by rfl) ?_
      refine wot_ci hTb rfl (call_bin (by rfl) (by rfl)) (im41 (by (simp only [adv_pos, put_pos]; omega)) hL) (fun _ _ _ h => h.2) (allD_ok hXF _) (by rfl) (by rfl) (by rfl) ?_
      rintro r Th' ⟨⟨⟨o2, rfl, ho2⟩, g3, rfl⟩, _⟩
      refine wot_o (x := Enc.tv (⟨3, 10 + ((v1 % 20 : Nat) : Int), 0, rO w1, o1, o2, zO⟩ : Inst)) rfl (opt_as (opt_build (by rfl) (by rfl) (by rfl) (by rfl)) (by rfl)) (by rfl) (by rfl) (by rfl) ?_
      refine wot_ci hTb rfl (call_bin (by rfl) (by rfl)) (im76 h0 (by show s.bs.length ≤ _; omega) (fun b hb => by have := hil b hb; omega)) (fun _ _ _ h => h.2) (allD_ok hXF _) (by rfl) (by rfl) (by rfl) ?_
      rintro r Th' ⟨⟨rfl, rfl⟩, _⟩
      refine wot_nil ?_
      (refine wct_ret_seq ?_)
      refine fini_0 (by simp) rfl ?_
      apply Exists.intro
      refine ⟨?_, ?_⟩
      · exact ⟨_, by (repeat rw [List.append_assoc ex]); try rfl⟩
      · refine Stp.put' ?_ h0 (.mk' (by exact okR (by assumption) h6) (by exact OOk.mono h6 (by assumption)) (by exact OOk.mono h6 (by assumption)) (by exact okZ))
        refine Stp.adv' ?_; refine Stp.adv' ?_; refine Stp.adv' ?_; refine Stp.adv' ?_; refine Stp.adv' ?_; exact Stp.refl _ _
    · (refine wct_skip_seq ?_; refine wct_assoc ?_)
      try simp only [Int.toNat_natCast] at c2
      refine wct_region_seq (by simp) ?_
      refine wot_o rfl (opt_move (by rfl) (by rfl)) (by rfl) (by rfl) (by rfl) ?_
      refine wot_o rfl (opt_cmp (by rfl) (by rfl) (by rfl) (by rfl) (by rfl)) (by rfl) (by rfl) (by rfl) ?_
      refine wot_nil ?_
      refine wct_if_seq (by rfl) (by rfl) (fun c3 => ?_) (fun c3 => ?_)
      · (refine wct_assoc ?_)
        try simp only [Int.toNat_natCast] at c3
        refine wct_region_seq (by simp) ?_
        refine wot_o rfl (opt_move (by rfl) (by rfl)) (by rfl) (by rfl) (by rfl) ?_
        refine wot_o rfl (opt_move (by rfl) (by rfl)) (by rfl) (by rfl) (by rfl) ?_
        refine wot_ci hTb rfl (call_bin (by rfl) (by rfl)) (im35 (by (simp only [adv_pos, put_pos]; omega)) hL) (fun _ _ _ h => h.2) (allD_ok hXF _) (by rfl) (by rfl) (by rfl) ?_
        rintro r Th' ⟨⟨⟨v1, rfl, hv1⟩, rfl⟩, _⟩
        refine wot_o rfl (by exact opt_remNC (by rfl) (by rfl) (by rfl) (by rfl)) (by rfl) (by rfl) (by rfl) ?_
        refine wot_o rfl (opt_add (by rfl) (by rfl) (by rfl) (by rfl) (by constructor <;> omega)) (by rfl) (by rfl) (by rfl) ?_
        refine wot_o rfl (opt_move (by rfl) (by rfl)) (by rfl) (by rfl) (by rfl) ?_
        refine wot_ci hTb rfl (call_bin (by rfl) (by rfl)) (im40 (by (simp only [adv_pos, put_pos]; omega)) hL) (fun _ _ _ h => h.2) (allD_ok hXF _) (by rfl) (by rfl) (by rfl) ?_
        rintro r Th' ⟨⟨⟨w1, rfl, hw1⟩, g1, rfl⟩, _⟩
        refine wot_o rfl (opt_move (by rfl) (by rfl)) (by rfl) (by rfl) (by rfl) ?_
        refine wot_ci hTb rfl (call_bin (by rfl) (by rfl)) (im41 (by (simp only [adv_pos, put_pos]; omega)) hL) (fun _ _ _ h => h.2) (allD_ok hXF _) (by rfl) (by rfl) (by rfl) ?_
        rintro r Th' ⟨⟨⟨o1, rfl, ho1⟩, g2, rfl⟩, _⟩
        refine wot_o (x := Enc.tv (⟨2, 1 + ((v1 % 5 : Nat) : Int), 0, rO w1, o1, zO, zO⟩ : Inst)) rfl (opt_as (opt_build (by rfl) (by rfl) (by rfl) (by rfl)) (by rfl)) (by rfl) (by rfl) (by rfl) ?_
        refine wot_ci hTb rfl (call_bin (by rfl) (by rfl)) (im76 h0 (by show s.bs.length ≤ _; omega) (fun b hb => by have := hil b hb; omega)) (fun _ _ _ h => h.2) (allD_ok hXF _) (by rfl) (by rfl) (by rfl) ?_
        rintro r Th' ⟨⟨rfl, rfl⟩, _⟩
        refine wot_nil ?_
        (refine wct_ret_seq ?_)
        refine fini_0 (by simp) rfl ?_
        apply Exists.intro
        refine ⟨?_, ?_⟩
        · exact ⟨_, by (repeat rw [List.append_assoc ex]); try rfl⟩
        · refine Stp.put' ?_ h0 (.mk' (by exact okR (by assumption) h6) (by exact OOk.mono h6 (by assumption)) (by exact okZ) (by exact okZ))
          refine Stp.adv' ?_; refine Stp.adv' ?_; refine Stp.adv' ?_; refine Stp.adv' ?_; exact Stp.refl _ _
      · (refine wct_skip_seq ?_; refine wct_assoc ?_)
        try simp only [Int.toNat_natCast] at c3
        refine wct_region_seq (by simp) ?_
        refine wot_o rfl (opt_move (by rfl) (by rfl)) (by rfl) (by rfl) (by rfl) ?_
        refine wot_o rfl (opt_cmp (by rfl) (by rfl) (by rfl) (by rfl) (by rfl)) (by rfl) (by rfl) (by rfl) ?_
        refine wot_nil ?_
        refine wct_if_seq (by rfl) (by rfl) (fun c4 => ?_) (fun c4 => ?_)
        · (refine wct_assoc ?_)
          try simp only [Int.toNat_natCast] at c4
          refine wct_region_seq (by simp) ?_
          refine wot_o rfl (opt_move (by rfl) (by rfl)) (by rfl) (by rfl) (by rfl) ?_
          refine wot_o rfl (opt_move (by rfl) (by rfl)) (by rfl) (by rfl) (by rfl) ?_
          refine wot_ci hTb rfl (call_bin (by rfl) (by rfl)) (im40 (by (simp only [adv_pos, put_pos]; omega)) hL) (fun _ _ _ h => h.2) (allD_ok hXF _) (by rfl) (by rfl) (by rfl) ?_
          rintro r Th' ⟨⟨⟨w1, rfl, hw1⟩, g1, rfl⟩, _⟩
          refine wot_o rfl (opt_move (by rfl) (by rfl)) (by rfl) (by rfl) (by rfl) ?_
          refine wot_ci hTb rfl (call_bin (by rfl) (by rfl)) (im41 (by (simp only [adv_pos, put_pos]; omega)) hL) (fun _ _ _ h => h.2) (allD_ok hXF _) (by rfl) (by rfl) (by rfl) ?_
          rintro r Th' ⟨⟨⟨o1, rfl, ho1⟩, g2, rfl⟩, _⟩
          refine wot_o rfl (opt_move (by rfl) (by rfl)) (by rfl) (by rfl) (by rfl) ?_
          refine wot_ci hTb rfl (call_bin (by rfl) (by rfl)) (im41 (by (simp only [adv_pos, put_pos]; omega)) hL) (fun _ _ _ h => h.2) (allD_ok hXF _) (by rfl) (by rfl) (by rfl) ?_
          rintro r Th' ⟨⟨⟨o2, rfl, ho2⟩, g3, rfl⟩, _⟩
          refine wot_o rfl (opt_move (by rfl) (by rfl)) (by rfl) (by rfl) (by rfl) ?_
          refine wot_ci hTb rfl (call_bin (by rfl) (by rfl)) (im41 (by (simp only [adv_pos, put_pos]; omega)) hL) (fun _ _ _ h => h.2) (allD_ok hXF _) (by rfl) (by rfl) (by rfl) ?_
          rintro r Th' ⟨⟨⟨o3, rfl, ho3⟩, g4, rfl⟩, _⟩
          refine wot_o (x := Enc.tv (⟨4, 0, 0, rO w1, o1, o2, o3⟩ : Inst)) rfl (opt_as (opt_build (by rfl) (by rfl) (by rfl) (by rfl)) (by rfl)) (by rfl) (by rfl) (by rfl) ?_
          refine wot_ci hTb rfl (call_bin (by rfl) (by rfl)) (im76 h0 (by show s.bs.length ≤ _; omega) (fun b hb => by have := hil b hb; omega)) (fun _ _ _ h => h.2) (allD_ok hXF _) (by rfl) (by rfl) (by rfl) ?_
          rintro r Th' ⟨⟨rfl, rfl⟩, _⟩
          refine wot_nil ?_
          (refine wct_ret_seq ?_)
          refine fini_0 (by simp) rfl ?_
          apply Exists.intro
          refine ⟨?_, ?_⟩
          · exact ⟨_, by (repeat rw [List.append_assoc ex]); try rfl⟩
          · refine Stp.put' ?_ h0 (.mk' (by exact okR (by assumption) h6) (by exact OOk.mono h6 (by assumption)) (by exact OOk.mono h6 (by assumption)) (by exact OOk.mono h6 (by assumption)))
            refine Stp.adv' ?_; refine Stp.adv' ?_; refine Stp.adv' ?_; refine Stp.adv' ?_; refine Stp.adv' ?_; exact Stp.refl _ _
        · (refine wct_skip_seq ?_; refine wct_assoc ?_)
          try simp only [Int.toNat_natCast] at c4
          refine wct_region_seq (by simp) ?_
          refine wot_o rfl (opt_move (by rfl) (by rfl)) (by rfl) (by rfl) (by rfl) ?_
          refine wot_o rfl (opt_cmp (by rfl) (by rfl) (by rfl) (by rfl) (by rfl)) (by rfl) (by rfl) (by rfl) ?_
          refine wot_nil ?_
          refine wct_if_seq (by rfl) (by rfl) (fun c5 => ?_) (fun c5 => ?_)
          · (refine wct_assoc ?_)
            try simp only [Int.toNat_natCast] at c5
            refine wct_region_seq (by simp) ?_
            refine wot_o rfl (opt_move (by rfl) (by rfl)) (by rfl) (by rfl) (by rfl) ?_
            refine wot_o rfl (opt_move (by rfl) (by rfl)) (by rfl) (by rfl) (by rfl) ?_
            refine wot_ci hTb rfl (call_bin (by rfl) (by rfl)) (im40 (by (simp only [adv_pos, put_pos]; omega)) hL) (fun _ _ _ h => h.2) (allD_ok hXF _) (by rfl) (by rfl) (by rfl) ?_
            rintro r Th' ⟨⟨⟨w1, rfl, hw1⟩, g1, rfl⟩, _⟩
            refine wot_o rfl (opt_move (by rfl) (by rfl)) (by rfl) (by rfl) (by rfl) ?_
            refine wot_ci hTb rfl (call_bin (by rfl) (by rfl)) (im41 (by (simp only [adv_pos, put_pos]; omega)) hL) (fun _ _ _ h => h.2) (allD_ok hXF _) (by rfl) (by rfl) (by rfl) ?_
            rintro r Th' ⟨⟨⟨o1, rfl, ho1⟩, g2, rfl⟩, _⟩
            refine wot_o (x := Enc.tv (⟨1, 0, 0, rO w1, o1, zO, zO⟩ : Inst)) rfl (opt_as (opt_build (by rfl) (by rfl) (by rfl) (by rfl)) (by rfl)) (by rfl) (by rfl) (by rfl) ?_
            refine wot_ci hTb rfl (call_bin (by rfl) (by rfl)) (im76 h0 (by show s.bs.length ≤ _; omega) (fun b hb => by have := hil b hb; omega)) (fun _ _ _ h => h.2) (allD_ok hXF _) (by rfl) (by rfl) (by rfl) ?_
            rintro r Th' ⟨⟨rfl, rfl⟩, _⟩
            refine wot_nil ?_
            (refine wct_ret_seq ?_)
            refine fini_0 (by simp) rfl ?_
            apply Exists.intro
            refine ⟨?_, ?_⟩
            · exact ⟨_, by (repeat rw [List.append_assoc ex]); try rfl⟩
            · refine Stp.put' ?_ h0 (.mk' (by exact okR (by assumption) h6) (by exact OOk.mono h6 (by assumption)) (by exact okZ) (by exact okZ))
              refine Stp.adv' ?_; refine Stp.adv' ?_; refine Stp.adv' ?_; exact Stp.refl _ _
          · (refine wct_skip_seq ?_; refine wct_assoc ?_)
            try simp only [Int.toNat_natCast] at c5
            refine wct_region_seq (by simp) ?_
            refine wot_o rfl (opt_move (by rfl) (by rfl)) (by rfl) (by rfl) (by rfl) ?_
            refine wot_o rfl (opt_cmp (by rfl) (by rfl) (by rfl) (by rfl) (by rfl)) (by rfl) (by rfl) (by rfl) ?_
            refine wot_nil ?_
            refine wct_if_seq (by rfl) (by rfl) (fun c6 => ?_) (fun c6 => ?_)
            · (refine wct_assoc ?_)
              try simp only [Int.toNat_natCast] at c6
              refine wct_region_seq (by simp) ?_
              refine wot_o rfl (opt_move (by rfl) (by rfl)) (by rfl) (by rfl) (by rfl) ?_
              refine wot_o rfl (opt_move (by rfl) (by rfl)) (by rfl) (by rfl) (by rfl) ?_
              refine wot_ci hTb rfl (call_bin (by rfl) (by rfl)) (im35 (by (simp only [adv_pos, put_pos]; omega)) hL) (fun _ _ _ h => h.2) (allD_ok hXF _) (by rfl) (by rfl) (by rfl) ?_
              rintro r Th' ⟨⟨⟨v1, rfl, hv1⟩, rfl⟩, _⟩
              refine wot_o rfl (by exact opt_remNC (by rfl) (by rfl) (by rfl) (by rfl)) (by rfl) (by rfl) (by rfl) ?_
              refine wot_o rfl (opt_move (by rfl) (by rfl)) (by rfl) (by rfl) (by rfl) ?_
              refine wot_ci hTb rfl (call_bin (by rfl) (by rfl)) (im40 (by (simp only [adv_pos, put_pos]; omega)) hL) (fun _ _ _ h => h.2) (allD_ok hXF _) (by rfl) (by rfl) (by rfl) ?_
              rintro r Th' ⟨⟨⟨w1, rfl, hw1⟩, g1, rfl⟩, _⟩
              refine wot_o (x := Enc.tv (⟨6, 0, ((v1 % 3 : Nat) : Int), rO w1, zO, zO, zO⟩ : Inst)) rfl (opt_as (opt_build (by rfl) (by rfl) (by rfl) (by rfl)) (by rfl)) (by rfl) (by rfl) (by rfl) ?_
              refine wot_ci hTb rfl (call_bin (by rfl) (by rfl)) (im76 h0 (by show s.bs.length ≤ _; omega) (fun b hb => by have := hil b hb; omega)) (fun _ _ _ h => h.2) (allD_ok hXF _) (by rfl) (by rfl) (by rfl) ?_
              rintro r Th' ⟨⟨rfl, rfl⟩, _⟩
              refine wot_nil ?_
              (refine wct_ret_seq ?_)
              refine fini_0 (by simp) rfl ?_
              apply Exists.intro
              refine ⟨?_, ?_⟩
              · exact ⟨_, rfl⟩
              · refine Stp.put' ?_ h0 (.mk' (by exact okR (by assumption) h6) (by exact okZ) (by exact okZ) (by exact okZ))
                refine Stp.adv' ?_; refine Stp.adv' ?_; refine Stp.adv' ?_; exact Stp.refl _ _
            · (refine wct_skip_seq ?_; refine wct_assoc ?_)
              try simp only [Int.toNat_natCast] at c6
              refine wct_region_seq (by simp) ?_
              refine wot_o rfl (opt_move (by rfl) (by rfl)) (by rfl) (by rfl) (by rfl) ?_
              refine wot_o rfl (opt_cmp (by rfl) (by rfl) (by rfl) (by rfl) (by rfl)) (by rfl) (by rfl) (by rfl) ?_
              refine wot_nil ?_
              refine wct_if_seq (by rfl) (by rfl) (fun c7 => ?_) (fun c7 => ?_)
              · (refine wct_assoc ?_)
                try simp only [Int.toNat_natCast] at c7
                refine wct_region_seq (by simp) ?_
                refine wot_o rfl (opt_move (by rfl) (by rfl)) (by rfl) (by rfl) (by rfl) ?_
                refine wot_o rfl (opt_move (by rfl) (by rfl)) (by rfl) (by rfl) (by rfl) ?_
                refine wot_ci hTb rfl (call_bin (by rfl) (by rfl)) (im35 (by (simp only [adv_pos, put_pos]; omega)) hL) (fun _ _ _ h => h.2) (allD_ok hXF _) (by rfl) (by rfl) (by rfl) ?_
                rintro r Th' ⟨⟨⟨v1, rfl, hv1⟩, rfl⟩, _⟩
                refine wot_o rfl (by exact opt_remNC (by rfl) (by rfl) (by rfl) (by rfl)) (by rfl) (by rfl) (by rfl) ?_
                refine wot_o rfl (opt_add (by rfl) (by rfl) (by rfl) (by rfl) (by constructor <;> omega)) (by rfl) (by rfl) (by rfl) ?_
                refine wot_o (x := Enc.tv (⟨10, 1 + ((v1 % 2 : Nat) : Int), 0, zO, zO, zO, zO⟩ : Inst)) rfl (opt_as (opt_build (by rfl) (by rfl) (by rfl) (by rfl)) (by rfl)) (by rfl) (by rfl) (by rfl) ?_
                refine wot_ci hTb rfl (call_bin (by rfl) (by rfl)) (im76 h0 (by show s.bs.length ≤ _; omega) (fun b hb => by have := hil b hb; omega)) (fun _ _ _ h => h.2) (allD_ok hXF _) (by rfl) (by rfl) (by rfl) ?_
                rintro r Th' ⟨⟨rfl, rfl⟩, _⟩
                refine wot_nil ?_
                (refine wct_ret_seq ?_)
                refine fini_0 (by simp) rfl ?_
                apply Exists.intro
                refine ⟨?_, ?_⟩
                · exact ⟨[], by rw [List.append_nil]⟩
                · refine Stp.put' ?_ h0 (.mk' (by exact okZ) (by exact okZ) (by exact okZ) (by exact okZ))
                  refine Stp.adv' ?_; refine Stp.adv' ?_; exact Stp.refl _ _
              · (refine wct_skip_seq ?_; refine wct_assoc ?_)
                try simp only [Int.toNat_natCast] at c7
                refine wct_region_seq (by simp) ?_
                refine wot_o rfl (opt_move (by rfl) (by rfl)) (by rfl) (by rfl) (by rfl) ?_
                refine wot_o rfl (opt_cmp (by rfl) (by rfl) (by rfl) (by rfl) (by rfl)) (by rfl) (by rfl) (by rfl) ?_
                refine wot_nil ?_
                refine wct_if_seq (by rfl) (by rfl) (fun c8 => ?_) (fun c8 => ?_)
                · (refine wct_assoc ?_)
                  try simp only [Int.toNat_natCast] at c8
                  refine wct_region_seq (by simp) ?_
                  refine wot_o rfl (opt_move (by rfl) (by rfl)) (by rfl) (by rfl) (by rfl) ?_
                  refine wot_ci hTb rfl (call_bin (by rfl) (by rfl)) (im101 (by (simp only [adv_pos, put_pos]; omega)) hL h0 (by show s.bs.length ≤ _; omega) (fun b hb => by have := hil b hb; omega) har) (fun _ _ _ h => h.2) (allD_ok hXF _) (by rfl) (by rfl) (by rfl) ?_
                  rintro r Th' ⟨⟨n1, w1, i1, g1, rfl, hw1, hi1, rfl⟩, _⟩
                  refine wot_o rfl (opt_move (by rfl) (by rfl)) (by rfl) (by rfl) (by rfl) ?_
                  refine wot_o rfl (opt_extract (by rfl) (by rfl) (by rfl)) (by rfl) (by rfl) (by rfl) ?_
                  refine wot_o rfl (opt_extract (by rfl) (by rfl) (by rfl)) (by rfl) (by rfl) (by rfl) ?_
                  refine wot_o rfl (opt_alloc (by rfl)) (by rfl) (by rfl) (by rfl) ?_
                  refine wot_o rfl (opt_assign (by rfl) (by rfl)) (by rfl) (by rfl) (by rfl) ?_
                  refine wot_of0 rfl (opt_store_end (ex := []) rfl rfl (by rfl) (by rfl) (by rfl) (by rfl) (by trivial) (by exact Enc.len _) (by rfl) (by rfl)) (allD_ok hXF _) (by rfl) (by rfl) ?_
                  refine wot_nil ?_
                  (refine wct_assoc ?_)
                  refine wct_ghost (g_freeze (d := 5) rfl (by rw [Nat.ble_eq, hX]; simp only [List.length_append, mR_len, put_len]; have : s.adv.adv.adv.adv.bs.length = s.bs.length := rfl; omega) (end_get rfl) (Fz.pt (by rw [Enc.len]; exact Enc.pos))) ?_
                  rw [end_set rfl, List.append_assoc]
                  have hq0 : 0 < (s.adv.adv.adv.adv.put i1).bs.length := by rw [put_len]; exact h0
                  have hqb : (s.adv.adv.adv.adv.put i1).bs.length ≤ 2 ^ 20 := by rw [put_len]; show s.bs.length ≤ _; omega
                  have hqi : ∀ b ∈ (s.adv.adv.adv.adv.put i1).bs, b.i.length ≤ 2 ^ 20 := fun b hb => by have := put_il h0 hil b hb; omega
                  refine wct_draw_seq (by kernel_rfl) (u := [(1, 3), (1, 10), (6, 10), (8, 3), (8, 10)]) (by kernel_rfl) ?_
                  refine wtt_o rfl (opt_move (by rfl) (by rfl)) (by rfl) (by rfl) (by rfl) ?_
                  refine wtt_o rfl (opt_lit_l ([(10 : Int), 22, 23, 17, 18, 19]) (by rfl) (by rfl) (by rfl) (by rfl) (by rfl) (by rfl) (by rfl) (by rfl) (by rfl) (by rfl)) (by rfl) (by rfl) (by rfl) ?_
                  refine wtt_o rfl (opt_move (by rfl) (by rfl)) (by rfl) (by rfl) (by rfl) ?_
                  refine wtt_ci hTb rfl (call_bin (by rfl) (by rfl)) (im35 (by (simp only [adv_pos, put_pos]; omega)) hL) (fun _ _ _ h => h.2) (allD_ok hXF _) (by rfl) (by rfl) (by rfl) ?_
                  rintro r Th' ⟨⟨⟨v2, rfl, hv2⟩, rfl⟩, _⟩
                  refine wtt_o rfl (by exact opt_remNC (by rfl) (by rfl) (by rfl) (by rfl)) (by rfl) (by rfl) (by rfl) ?_
                  refine wtt_o rfl (opt_index_lstN (by rfl) (by rfl) (by rfl) (by rfl) (by show _ < 6; omega) (by rfl)) (by rfl) (by rfl) (by rfl) ?_
                  refine wtt_o rfl (by exact opt_load_fp_1 (by rfl) (by rfl) (by rfl)) (by rfl) (by rfl) (by rfl) ?_
                  refine wtt_o rfl (opt_move (by rfl) (by rfl)) (by rfl) (by rfl) (by rfl) ?_
                  refine wtt_o (x := Enc.tv (rO w1)) rfl (opt_as (by exact opt_load_fp_row (by rfl) (by rfl) (by rfl)) (by rfl)) (by rfl) (by rfl) (by rfl) ?_
                  refine wtt_o rfl (opt_move (by rfl) (by rfl)) (by rfl) (by rfl) (by rfl) ?_
                  refine wtt_ci hTb rfl (call_bin (by rfl) (by rfl)) (im41 (by (simp only [adv_pos, put_pos]; omega)) hL) (fun _ _ _ h => h.2) (allD_ok hXF _) (by rfl) (by rfl) (by rfl) ?_
                  rintro r Th' ⟨⟨⟨o1, rfl, ho1⟩, g2, rfl⟩, _⟩
                  refine wtt_o (x := Enc.tv (⟨9, at' [(10 : Int), 22, 23, 17, 18, 19] (v2 % 6), n1, zO, rO w1, o1, zO⟩ : Inst)) rfl (opt_as (opt_build (by rfl) (by rfl) (by rfl) (by rfl)) (by rfl)) (by rfl) (by rfl) (by rfl) ?_
                  refine wtt_ci hTb rfl (call_bin (by rfl) (by rfl)) (im76 hq0 hqb hqi) (fun _ _ _ h => h.2) (allD_ok hXF _) (by rfl) (by rfl) (by rfl) ?_
                  rintro r Th' ⟨⟨rfl, rfl⟩, _⟩
                  refine wtt_nil ?_
                  refine ⟨⟨(by exact ChkT.lay (by rfl) (by rfl) (by rfl) (by rfl) (by rfl)), (by exact ChkT.lay (by rfl) (by rfl) (by rfl) (by rfl) (by rfl)), (by exact ChkT.fp (by rfl) (by rfl) (by rfl) (by rfl) (by rfl)), (by exact ChkT.fp (by rfl) (by rfl) (by rfl) (by rfl) (by rfl)), (by exact ChkT.fp (by rfl) (by rfl) (by rfl) (by rfl) (by rfl)), trivial⟩, ?_⟩
                  (refine wct_ret_seq ?_)
                  refine fini_0 (by simp) rfl ?_
                  apply Exists.intro
                  refine ⟨?_, ?_⟩
                  · exact ⟨_, by (repeat rw [List.append_assoc ex]); try rfl⟩
                  · refine Stp.put' ?_ h0 (.mk' (by exact okZ) (by exact okR (by assumption) h6) (by exact OOk.mono h6 (by assumption)) (by exact okZ))
                    repeat refine Stp.adv' ?_
                    refine Stp.put' ?_ h0 (hi1.mono h6)
                    refine Stp.adv' ?_; refine Stp.adv' ?_; refine Stp.adv' ?_; refine Stp.adv' ?_; exact Stp.refl _ _
                · (refine wct_skip_seq ?_)
                  try simp only [Int.toNat_natCast] at c8
                  refine wct_region_seq (by simp) ?_
                  refine wot_o rfl (opt_move (by rfl) (by rfl)) (by rfl) (by rfl) (by rfl) ?_
                  refine wot_ci hTb rfl (call_bin (by rfl) (by rfl)) (im101 (by (simp only [adv_pos, put_pos]; omega)) hL h0 (by show s.bs.length ≤ _; omega) (fun b hb => by have := hil b hb; omega) har) (fun _ _ _ h => h.2) (allD_ok hXF _) (by rfl) (by rfl) (by rfl) ?_
                  rintro r Th' ⟨⟨n1, w1, i1, g1, rfl, hw1, hi1, rfl⟩, _⟩
                  refine wot_o rfl (opt_move (by rfl) (by rfl)) (by rfl) (by rfl) (by rfl) ?_
                  refine wot_o rfl (opt_extract (by rfl) (by rfl) (by rfl)) (by rfl) (by rfl) (by rfl) ?_
                  refine wot_o rfl (opt_extract (by rfl) (by rfl) (by rfl)) (by rfl) (by rfl) (by rfl) ?_
                  refine wot_o rfl (opt_alloc (by rfl)) (by rfl) (by rfl) (by rfl) ?_
                  refine wot_o rfl (opt_assign (by rfl) (by rfl)) (by rfl) (by rfl) (by rfl) ?_
                  refine wot_of0 rfl (opt_store_end (ex := []) rfl rfl (by rfl) (by rfl) (by rfl) (by rfl) (by trivial) (by exact Enc.len _) (by rfl) (by rfl)) (allD_ok hXF _) (by rfl) (by rfl) ?_
                  refine wot_nil ?_
                  (refine wct_assoc ?_)
                  refine wct_ghost (g_freeze (d := 7) rfl (by rw [Nat.ble_eq, hX]; simp only [List.length_append, mR_len, put_len]; have : s.adv.adv.adv.adv.bs.length = s.bs.length := rfl; omega) (end_get rfl) (Fz.pt (by rw [Enc.len]; exact Enc.pos))) ?_
                  rw [end_set rfl, List.append_assoc]
                  have hq0 : 0 < (s.adv.adv.adv.adv.put i1).bs.length := by rw [put_len]; exact h0
                  have hqb : (s.adv.adv.adv.adv.put i1).bs.length ≤ 2 ^ 20 := by rw [put_len]; show s.bs.length ≤ _; omega
                  have hqi : ∀ b ∈ (s.adv.adv.adv.adv.put i1).bs, b.i.length ≤ 2 ^ 20 := fun b hb => by have := put_il h0 hil b hb; omega
                  refine wct_region_seq (by simp) ?_
                  refine wot_o rfl (opt_move (by rfl) (by rfl)) (by rfl) (by rfl) (by rfl) ?_
                  refine wot_o rfl (opt_cmp (by rfl) (by rfl) (by rfl) (by rfl) (by rfl)) (by rfl) (by rfl) (by rfl) ?_
                  refine wot_nil ?_
                  refine wct_if_seq (by rfl) (by rfl) (fun c9 => ?_) (fun c9 => ?_)
                  · (refine wct_assoc ?_)
                    try simp only [Int.toNat_natCast] at c9
                    refine wct_draw_seq (by kernel_rfl) (u := [(4, 3)]) (by kernel_rfl) ?_
                    refine wtt_o rfl (opt_move (by rfl) (by rfl)) (by rfl) (by rfl) (by rfl) ?_
                    refine wtt_o rfl (opt_move (by rfl) (by rfl)) (by rfl) (by rfl) (by rfl) ?_
                    refine wtt_o rfl (opt_move (by rfl) (by rfl)) (by rfl) (by rfl) (by rfl) ?_
                    refine wtt_ci hTb rfl (call_bin (by rfl) (by rfl)) (im40 (by (simp only [adv_pos, put_pos]; omega)) hL) (fun _ _ _ h => h.2) (allD_ok hXF _) (by rfl) (by rfl) (by rfl) ?_
                    rintro r Th' ⟨⟨⟨w2, rfl, hw2⟩, g2, rfl⟩, _⟩
                    refine wtt_o (x := Enc.tv (rO w1)) rfl (opt_as (by exact opt_load_fp_row (by rfl) (by rfl) (by rfl)) (by rfl)) (by rfl) (by rfl) (by rfl) ?_
                    refine wtt_o (x := Enc.tv (⟨7, 0, n1, rO w2, rO w1, zO, zO⟩ : Inst)) rfl (opt_as (opt_build (by rfl) (by rfl) (by rfl) (by rfl)) (by rfl)) (by rfl) (by rfl) (by rfl) ?_
                    refine wtt_ci hTb rfl (call_bin (by rfl) (by rfl)) (im76 hq0 hqb hqi) (fun _ _ _ h => h.2) (allD_ok hXF _) (by rfl) (by rfl) (by rfl) ?_
                    rintro r Th' ⟨⟨rfl, rfl⟩, _⟩
                    refine wtt_nil ?_
                    refine ⟨⟨(by exact ChkT.fp (by rfl) (by rfl) (by rfl) (by rfl) (by rfl)), trivial⟩, ?_⟩
                    (refine wct_ret_seq ?_)
                    refine fini_0 (by simp) rfl ?_
                    apply Exists.intro
                    refine ⟨?_, ?_⟩
                    · exact ⟨_, by (repeat rw [List.append_assoc ex]); try rfl⟩
                    · refine Stp.put' ?_ h0 (.mk' (by exact okR (by assumption) h6) (by exact okR (by assumption) h6) (by exact okZ) (by exact okZ))
                      repeat refine Stp.adv' ?_
                      refine Stp.put' ?_ h0 (hi1.mono h6)
                      refine Stp.adv' ?_; refine Stp.adv' ?_; refine Stp.adv' ?_; refine Stp.adv' ?_; exact Stp.refl _ _
                  · (refine wct_skip_seq ?_)
                    try simp only [Int.toNat_natCast] at c9
                    refine wct_draw (by kernel_rfl) (u := [(2, 4)]) (by kernel_rfl) ?_
                    refine wtt_o rfl (opt_move (by rfl) (by rfl)) (by rfl) (by rfl) (by rfl) ?_
                    refine wtt_o rfl (opt_move (by rfl) (by rfl)) (by rfl) (by rfl) (by rfl) ?_
                    refine wtt_o (x := Enc.tv (rO w1)) rfl (opt_as (by exact opt_load_fp_row (by rfl) (by rfl) (by rfl)) (by rfl)) (by rfl) (by rfl) (by rfl) ?_
                    refine wtt_o rfl (opt_move (by rfl) (by rfl)) (by rfl) (by rfl) (by rfl) ?_
                    refine wtt_ci hTb rfl (call_bin (by rfl) (by rfl)) (im41 (by (simp only [adv_pos, put_pos]; omega)) hL) (fun _ _ _ h => h.2) (allD_ok hXF _) (by rfl) (by rfl) (by rfl) ?_
                    rintro r Th' ⟨⟨⟨o1, rfl, ho1⟩, g2, rfl⟩, _⟩
                    refine wtt_o (x := Enc.tv (⟨8, 0, n1, zO, rO w1, o1, zO⟩ : Inst)) rfl (opt_as (opt_build (by rfl) (by rfl) (by rfl) (by rfl)) (by rfl)) (by rfl) (by rfl) (by rfl) ?_
                    refine wtt_ci hTb rfl (call_bin (by rfl) (by rfl)) (im76 hq0 hqb hqi) (fun _ _ _ h => h.2) (allD_ok hXF _) (by rfl) (by rfl) (by rfl) ?_
                    rintro r Th' ⟨⟨rfl, rfl⟩, _⟩
                    refine wtt_nil ?_
                    refine ⟨⟨(by exact ChkT.fp (by rfl) (by rfl) (by rfl) (by rfl) (by rfl)), trivial⟩, ?_⟩
                    refine fini_0 (by simp) rfl ?_
                    apply Exists.intro
                    refine ⟨?_, ?_⟩
                    · exact ⟨_, by (repeat rw [List.append_assoc ex]); try rfl⟩
                    · refine Stp.put' ?_ h0 (.mk' (by exact okZ) (by exact okR (by assumption) h6) (by exact OOk.mono h6 (by assumption)) (by exact okZ))
                      repeat refine Stp.adv' ?_
                      refine Stp.put' ?_ h0 (hi1.mono h6)
                      refine Stp.adv' ?_; refine Stp.adv' ?_; refine Stp.adv' ?_; refine Stp.adv' ?_; exact Stp.refl _ _
theorem im77 {Z : Root} {L : List U8} {s : MS} {A : Nat} {lim : Int} (hM : MI s A lim) (hA : A ≤ 2 ^ 18) (hL : LOk L) (h0 : 0 < s.bs.length) : Im Tryd.prog 77 [.pt 1 0 0] (mR Z L s) (fun r Th' e => (∃ s', (∃ gar, Th' = mR Z L s' ++ gar) ∧ Stp s s' 20) ∧ e = allD (s.bs.length + 4)) := by
  have h := im77a (Z := Z) (L := L) (s := s) (ex := []) (by have := hM.pos; omega) hL h0 (by have := hM.bl; omega) (fun b hb => by have := hM.il b hb; omega) hM.ar hM.rg
  rw [List.append_nil] at h
  exact h
theorem im42 {L : List U8} {s : MS} {A : Nat} {lim : Int} (hM : MI s A lim) (hA : A + 81 ≤ 2 ^ 18) (hL : LOk L) (h0 : 0 < s.bs.length) : Im Tryd.prog 42 [.pt 1 0 0] (mR Z0 L s) (fun r Th' e => (∃ s', Th' = mR Z0 L s' ∧ Stp s s' 81) ∧ e = allD (s.bs.length + 4)) := by
  have hp := hM.pos
  refine im_fn (allD (s.bs.length + 4)) fn42 (by rfl) (by rfl) (by rfl) fun X hX hF hTb => ?_
  have hXF : X.f = allD X.p.length := by rw [hF, hX, mR_len]
  rw [← List.append_nil (mR Z0 L s)]
  refine wct_region_seq (by simp) ?_
  refine wot_o rfl (opt_move (by rfl) (by rfl)) (by rfl) (by rfl) (by rfl) ?_
  refine wot_ci hTb rfl (call_bin (by rfl) (by rfl)) (im35 (by omega) hL) (fun _ _ _ h => h.2) (allD_ok hXF _) (by rfl) (by rfl) (by rfl) ?_
  rintro r Th' ⟨⟨⟨v, rfl, hv⟩, rfl⟩, _⟩
  refine wot_o rfl (by exact opt_remNC (by rfl) (by rfl) (by rfl) (by rfl)) (by rfl) (by rfl) (by rfl) ?_
  refine wot_o rfl (opt_assign (by rfl) (by rfl)) (by rfl) (by rfl) (by rfl) ?_
  refine wot_nil ?_
  rw [List.append_nil]
  refine wct_loop12 (fun (i : Nat) (t : MS) => i ≤ 4 ∧ Stp s t (81 - 20 * i)) (fun (i : Nat) (t : MS) => [(0, .pt 1 0 0), (2, ti (i : Int))]) (fun (i : Nat) (t : MS) => mR Z0 L t) (fun (i : Nat) (t : MS) => i) (v % 5) s.adv (by exact ⟨rfl, rfl, trivial⟩) (by rfl) ?_ ?_
  · exact ⟨by omega, (Stp.adv' (Stp.refl s 0)).le (by omega)⟩
  rintro i t ⟨hi, ht⟩
  (refine wct_assoc ?_)
  refine wct_region_seq (by simp) ?_
  refine wot_o rfl (opt_move (by rfl) (by rfl)) (by rfl) (by rfl) (by rfl) ?_
  refine wot_o rfl (opt_cmp (by rfl) (by rfl) (by rfl) (by rfl) (by rfl)) (by rfl) (by rfl) (by rfl) ?_
  refine wot_nil ?_
  refine wct_if_seq (by rfl) (by rfl) (fun c1 => ?_) (fun c1 => ?_)
  · (refine wct_skip_seq ?_; refine wct_block_rg ?_)
    try simp only [Int.toNat_natCast] at c1
    have ht2 := ht.mi A lim hM
    refine wct_region (by simp) ?_
    refine wot_o rfl (opt_move (by rfl) (by rfl)) (by rfl) (by rfl) (by rfl) ?_
    refine wot_ci hTb rfl (call_bin (by rfl) (by rfl)) (im77 ht2 (by omega) hL (by rw [ht.kp.ts]; exact h0)) (fun _ _ _ h => h.2) (allD_ok hXF _) (by rfl) (by rfl) (by rfl) ?_
    rintro r Th' ⟨⟨t2, ⟨gar, rfl⟩, hs2⟩, _⟩
    refine wot_nil ?_
    (refine qbt_normal ?_; refine qst_wct ?_)
    refine wct_ghost (g_pop (F := [(0, .pt 1 0 0), (2, ti (i : Int))]) (Th1 := mR Z0 L t2) (gar := gar) rfl (by rw [hX, mR_len, mR_len, hs2.kp.ts, ht.kp.ts]; exact Nat.le_refl _) (by exact ⟨rfl, rfl, trivial⟩) (by exact ⟨Lo.pt (by rfl), Lo.cl (Cl.v _), trivial⟩) lo_mR) ?_
    refine wct_region (by simp) ?_
    refine wot_o rfl (opt_move (by rfl) (by rfl)) (by rfl) (by rfl) (by rfl) ?_
    refine wot_o rfl (opt_subN (by rfl) (by rfl) (by rfl) (by rfl) (by omega) (by omega)) (by rfl) (by rfl) (by rfl) ?_
    refine wot_o rfl (opt_assign (by rfl) (by rfl)) (by rfl) (by rfl) (by rfl) ?_
    refine wot_nil ?_
    (refine qst_loop ?_)
    refine rnd (i - 1, t2) (by (try simp only); omega) ?_ (by exact ⟨rfl, rfl, trivial⟩) (by rfl)
    try dsimp only
    refine ⟨by omega, ?_⟩
    have := ht.trans hs2
    exact this.le (by omega)
  · (refine wct_exit_seq ?_; refine qst_exit ?_; refine qbt_same ?_)
    try simp only [Int.toNat_natCast] at c1
    refine fini_0 (by simp) rfl ?_
    exact ⟨t, rfl, ht.le (by omega)⟩
end Go.Ab
