/- The road to a card of this seat: G25. Each theorem holds for every input that its own premises speak of. -/
import Derived.Test.YtaaeeiheeihjaaaDoorG24
set_option linter.all false
namespace Go.Ab
open Go.Proofs
set_option maxRecDepth 100000 in
theorem convU8 (n : Int) : pureV Tryd.prog (convert 5 3 (.int .u8 n)) = some (.int .i64 (IntKind.i64.wrap n)) := by rfl
set_option maxRecDepth 100000 in
theorem conv321 (n : Int) : pureV Tryd.prog (convert 3 21 (.int .i64 n)) = some (.int .i32 (IntKind.i32.wrap n)) := by rfl
def LOk (L : List U8) : Prop := ∀ u ∈ L, 0 ≤ u.v ∧ u.v < 256
theorem im35 {Z : Root} {L : List U8} {s : MS} {ex : List Root} (hp : s.pos ≤ 2 ^ 40) (hL : LOk L) : Im Tryd.prog 35 [.pt 1 0 0] (mR Z L s ++ ex) (fun r Th' e => ((∃ v : Nat, r = ti (v : Int) ∧ v < 256) ∧ Th' = mR Z L s.adv ++ ex) ∧ e = .at 1 1 2) := by
  refine im_fn (.at 1 1 2) fn35 (by rfl) (by rfl) (by rfl) fun X hX hF hTb => ?_
  refine wct_region_seq (by simp) ?_
  refine wot_o rfl (opt_assign_c (by rfl)) (by rfl) (by rfl) (by rfl) ?_
  refine wot_nil ?_
  refine wct_region_seq (by simp) ?_
  refine wot_o rfl (opt_move (by rfl) (by rfl)) (by rfl) (by rfl) (by rfl) ?_
  refine wot_o rfl (by exact opt_nilCheck_pt (by rfl) (by rfl) (by rfl) (by rfl)) (by rfl) (by rfl) (by rfl) ?_
  refine wot_o rfl (by exact opt_fieldAddr_pt (by rfl) (by rfl) (by rfl) (by rfl)) (by rfl) (by rfl) (by rfl) ?_
  refine wot_o rfl (by exact opt_load_pt_1 (by rfl) (by rfl) (by rfl) (by rfl)) (by rfl) (by rfl) (by rfl) ?_
  refine wot_o rfl (opt_add (by rfl) (by rfl) (by rfl) (by rfl) (by constructor <;> omega)) (by rfl) (by rfl) (by rfl) ?_
  refine wot_o rfl (by exact opt_nilCheck_pt (by rfl) (by rfl) (by rfl) (by rfl)) (by rfl) (by rfl) (by rfl) ?_
  refine wot_o rfl (by exact opt_fieldAddr_pt (by rfl) (by rfl) (by rfl) (by rfl)) (by rfl) (by rfl) (by rfl) ?_
  refine wot_of0 rfl (by exact opt_store (by rfl) (by rfl) (by rfl) (by rfl) (by rfl) (by trivial) (by rfl) (by rfl) (by rfl)) (by intro i o hio h; rw [hF]; exact h) (by rfl) (by rfl) ?_
  refine wot_nil ?_
  (refine wct_assoc ?_)
  refine wct_draw_seq (by kernel_rfl) (u := []) (by kernel_rfl) ?_
  refine wtt_o rfl (opt_move (by rfl) (by rfl)) (by rfl) (by rfl) (by rfl) ?_
  refine wtt_o rfl (by exact opt_nilCheck_pt (by rfl) (by rfl) (by rfl) (by rfl)) (by rfl) (by rfl) (by rfl) ?_
  refine wtt_o rfl (by exact opt_fieldAddr_pt (by rfl) (by rfl) (by rfl) (by rfl)) (by rfl) (by rfl) (by rfl) ?_
  refine wtt_o rfl (by exact opt_load_pt_1 (by rfl) (by rfl) (by rfl) (by rfl)) (by rfl) (by rfl) (by rfl) ?_
  refine wtt_o rfl (opt_move (by rfl) (by rfl)) (by rfl) (by rfl) (by rfl) ?_
  refine wtt_o rfl (by exact opt_nilCheck_pt (by rfl) (by rfl) (by rfl) (by rfl)) (by rfl) (by rfl) (by rfl) ?_
  refine wtt_o rfl (by exact opt_fieldAddr_pt (by rfl) (by rfl) (by rfl) (by rfl)) (by rfl) (by rfl) (by rfl) ?_
  refine wtt_o rfl (by exact opt_load_pt_1 (by rfl) (by rfl) (by rfl) (by rfl)) (by rfl) (by rfl) (by rfl) ?_
  refine wtt_o rfl (by exact opt_len_fz (by rfl) (by rfl) (by rfl)) (by rfl) (by rfl) (by rfl) ?_
  refine wtt_o rfl (opt_cmp (by rfl) (by rfl) (by rfl) (by rfl) (by rfl)) (by rfl) (by rfl) (by rfl) ?_
  refine wtt_nil ?_
  refine ⟨trivial, ?_⟩
  refine wct_if_seq (by rfl) (by rfl) (fun c1 => ?_) (fun c1 => ?_)
  · (refine wct_assoc ?_)
    try simp only [Int.toNat_natCast] at c1
    refine wct_region_seq (by simp) ?_
    refine wot_o rfl (opt_assign_c (by rfl)) (by rfl) (by rfl) (by rfl) ?_
    refine wot_nil ?_
    (refine wct_ret_seq ?_)
    refine fini_1 (by simp) rfl (by rfl) ?_
    exact ⟨⟨0, rfl, by decide⟩, rfl⟩
  · (refine wct_skip_seq ?_)
    try simp only [Int.toNat_natCast] at c1
    have hk : s.pos < L.length := by omega
    have hv := hL (at' L s.pos) (by simp [at', hk])
    obtain ⟨v, hv2⟩ : ∃ v : Nat, (at' L s.pos).v = v := ⟨(at' L s.pos).v.toNat, by omega⟩
    refine wct_draw_seq (by kernel_rfl) (u := []) (by kernel_rfl) ?_
    refine wtt_o rfl (opt_move (by rfl) (by rfl)) (by rfl) (by rfl) (by rfl) ?_
    refine wtt_o rfl (by exact opt_nilCheck_pt (by rfl) (by rfl) (by rfl) (by rfl)) (by rfl) (by rfl) (by rfl) ?_
    refine wtt_o rfl (by exact opt_fieldAddr_pt (by rfl) (by rfl) (by rfl) (by rfl)) (by rfl) (by rfl) (by rfl) ?_
    refine wtt_o rfl (by exact opt_load_pt_1 (by rfl) (by rfl) (by rfl) (by rfl)) (by rfl) (by rfl) (by rfl) ?_
    refine wtt_o rfl (opt_move (by rfl) (by rfl)) (by rfl) (by rfl) (by rfl) ?_
    refine wtt_o rfl (by exact opt_nilCheck_pt (by rfl) (by rfl) (by rfl) (by rfl)) (by rfl) (by rfl) (by rfl) ?_
    refine wtt_o rfl (by exact opt_fieldAddr_pt (by rfl) (by rfl) (by rfl) (by rfl)) (by rfl) (by rfl) (by rfl) ?_
    refine wtt_o rfl (by exact opt_load_pt_1 (by rfl) (by rfl) (by rfl) (by rfl)) (by rfl) (by rfl) (by rfl) ?_
    refine wtt_o rfl (opt_sub (by rfl) (by rfl) (by rfl) (by rfl) (by constructor <;> omega)) (by rfl) (by rfl) (by rfl) ?_
    refine wtt_o rfl (by exact opt_index_lst (by rfl) (by rfl) (by rfl) (by rfl) (by omega) (by omega) (by rfl)) (by rfl) (by rfl) (by rfl) ?_
    refine wtt_o rfl (by exact opt_load_fp_1 (by rfl) (by rfl) (by rfl)) (by rfl) (by rfl) (by rfl) ?_
    refine wtt_o rfl (opt_conv (by rfl) (by rfl) (convU8 _) (by rfl) (by rfl)) (by rfl) (by rfl) (by rfl) ?_
    refine wtt_o rfl (opt_assign (by rfl) (by rfl)) (by rfl) (by rfl) (by rfl) ?_
    refine wtt_nil ?_
    refine ⟨trivial, ?_⟩
    (refine wct_ret ?_)
    refine fini_1 (by simp) rfl (by rfl) ?_
    have e : ((s.pos : Int) + 1 - 1).toNat = s.pos := by omega
    rw [e, hv2, wrap64 ⟨by omega, by omega⟩]
    exact ⟨⟨v, rfl, by omega⟩, rfl⟩
theorem adv_len {Z : Root} {L : List U8} {s : MS} {ex : List Root} {n : Nat} (hn : (mR Z L s ++ ex).length = n) : n = (mR Z L s.adv ++ ex).length := by
  rw [← hn, List.length_append, List.length_append, mR_len, mR_len]; rfl
theorem im40 {Z : Root} {L : List U8} {s : MS} {ex : List Root} (hp : s.pos ≤ 2 ^ 40) (hL : LOk L) : Im Tryd.prog 40 [.pt 1 0 0] (mR Z L s ++ ex) (fun r Th' e => ((∃ v : Int, r = Enc.tv (rO v) ∧ 0 ≤ v ∧ v < 6) ∧ ∃ gar, Th' = mR Z L s.adv ++ (ex ++ gar)) ∧ e = .at 1 1 2) := by
  refine im_fn (.at 1 1 2) fn40 (by rfl) (by rfl) (by rfl) fun X hX hF hTb => ?_
  refine wct_region_seq (by simp) ?_
  refine wot_o rfl (opt_alloc (by rfl)) (by rfl) (by rfl) (by rfl) ?_
  refine wot_nil ?_
  rw [List.append_assoc]
  generalize hn : (mR Z L s ++ ex).length = n at hX ⊢
  have hi := adv_len hn
  refine wct_region_seq (by simp) ?_
  refine wot_o rfl (opt_move (by rfl) (by rfl)) (by rfl) (by rfl) (by rfl) ?_
  refine wot_ci hTb rfl (call_bin (by rfl) (by rfl)) (im35 hp hL) (fun _ _ _ h => h.2) (by intro i o hio h; rw [hF]; exact h) (by rfl) (by rfl) (by rfl) ?_
  rintro r Th' ⟨⟨⟨v, rfl, hv⟩, rfl⟩, _⟩
  refine wot_o rfl (by exact opt_remNC (by rfl) (by rfl) (by rfl) (by rfl)) (by rfl) (by rfl) (by rfl) ?_
  refine wot_c hTb rfl (call_bin (by rfl) (by rfl)) (by refine Drs.cons (by exact Dr.cl (by exact Cl.v _)) ?_; exact Drs.nil) (pu74) (by exact Enc.cl _) (by rfl) (by rfl) (by rfl) ?_
  refine wot_of0 rfl (opt_store_end (A := mR Z L s.adv ++ ex) (ex := []) (List.append_assoc _ _ _).symm hi (by rfl) (by rfl) (by rfl) (by rfl) (by trivial) (by exact Enc.len _) (by rfl) (by rfl)) (by intro i o hio h; rw [hF]; (exfalso; exact eff_newAt hX hio (by (rw [Nat.ble_eq]; omega)) h)) (by rfl) (by rfl) ?_
  refine wot_nil ?_
  (refine wct_ret ?_)
  refine fini_cell (by simp) rfl (by rfl) (end_get hi) (by exact Enc.len _) (by rfl) ⟨⟨_, rfl, by omega, by omega⟩, [_], by rw [List.append_assoc]⟩
theorem im41 {Z : Root} {L : List U8} {s : MS} {ex : List Root} (hp : s.pos ≤ 2 ^ 40) (hL : LOk L) : Im Tryd.prog 41 [.pt 1 0 0] (mR Z L s ++ ex) (fun r Th' e => ((∃ o : Opd, r = Enc.tv o ∧ OOk 6 o) ∧ ∃ gar, Th' = mR Z L s.adv ++ (ex ++ gar)) ∧ e = .at 1 1 2) := by
  refine im_fn (.at 1 1 2) fn41 (by rfl) (by rfl) (by rfl) fun X hX hF hTb => ?_
  refine wct_region_seq (by simp) ?_
  refine wot_o rfl (opt_alloc (by rfl)) (by rfl) (by rfl) (by rfl) ?_
  refine wot_nil ?_
  rw [List.append_assoc]
  generalize hn : (mR Z L s ++ ex).length = n at hX ⊢
  have hi := adv_len hn
  refine wct_region_seq (by simp) ?_
  refine wot_o rfl (opt_move (by rfl) (by rfl)) (by rfl) (by rfl) (by rfl) ?_
  refine wot_ci hTb rfl (call_bin (by rfl) (by rfl)) (im35 hp hL) (fun _ _ _ h => h.2) (by intro i o hio h; rw [hF]; exact h) (by rfl) (by rfl) (by rfl) ?_
  rintro r Th' ⟨⟨⟨v, rfl, hv⟩, rfl⟩, _⟩
  refine wot_o rfl (opt_assign (by rfl) (by rfl)) (by rfl) (by rfl) (by rfl) ?_
  refine wot_nil ?_
  (refine wct_assoc ?_)
  refine wct_region_seq (by simp) ?_
  refine wot_o rfl (opt_move (by rfl) (by rfl)) (by rfl) (by rfl) (by rfl) ?_
  refine wot_o rfl (by exact opt_remNC (by rfl) (by rfl) (by rfl) (by rfl)) (by rfl) (by rfl) (by rfl) ?_
  refine wot_o rfl (opt_cmp (by rfl) (by rfl) (by rfl) (by rfl) (by rfl)) (by rfl) (by rfl) (by rfl) ?_
  refine wot_nil ?_
  refine wct_if_seq (by rfl) (by rfl) (fun c1 => ?_) (fun c1 => ?_)
  · (refine wct_assoc ?_)
    try simp only [Int.toNat_natCast] at c1
    refine wct_region_seq (by simp) ?_
    refine wot_o rfl (opt_move (by rfl) (by rfl)) (by rfl) (by rfl) (by rfl) ?_
    refine wot_o rfl (by exact opt_quoNC (by rfl) (by rfl) (by rfl) (by rfl) (by omega)) (by rfl) (by rfl) (by rfl) ?_
    refine wot_o rfl (opt_conv (by rfl) (by rfl) (conv321 _) (by rfl) (by rfl)) (by rfl) (by rfl) (by rfl) ?_
    refine wot_o rfl (opt_ibin (by rfl) (by rfl) (by rfl) (by rfl) (by rfl) (by rfl)) (by rfl) (by rfl) (by rfl) ?_
    refine wot_c hTb rfl (call_bin (by rfl) (by rfl)) (by refine Drs.cons (by exact Dr.cl (by exact Cl.v _)) ?_; exact Drs.nil) (pu75) (by exact Enc.cl _) (by rfl) (by rfl) (by rfl) ?_
    refine wot_of0 rfl (opt_store_end (A := mR Z L s.adv ++ ex) (ex := []) (List.append_assoc _ _ _).symm hi (by rfl) (by rfl) (by rfl) (by rfl) (by trivial) (by exact Enc.len _) (by rfl) (by rfl)) (by intro i o hio h; rw [hF]; (exfalso; exact eff_newAt hX hio (by (rw [Nat.ble_eq]; omega)) h)) (by rfl) (by rfl) ?_
    refine wot_nil ?_
    (refine wct_ret_seq ?_)
    refine fini_cell (by simp) rfl (by rfl) (end_get hi) (by exact Enc.len _) (by rfl) ⟨⟨_, rfl, fun e => absurd e (by show ¬ (1 : Int) = 2; decide)⟩, [_], by rw [List.append_assoc]⟩
  · (refine wct_skip_seq ?_)
    try simp only [Int.toNat_natCast] at c1
    refine wct_region_seq (by simp) ?_
    refine wot_o rfl (opt_move (by rfl) (by rfl)) (by rfl) (by rfl) (by rfl) ?_
    refine wot_o rfl (by exact opt_quoNC (by rfl) (by rfl) (by rfl) (by rfl) (by omega)) (by rfl) (by rfl) (by rfl) ?_
    refine wot_o rfl (by exact opt_remNC (by rfl) (by rfl) (by rfl) (by rfl)) (by rfl) (by rfl) (by rfl) ?_
    refine wot_c hTb rfl (call_bin (by rfl) (by rfl)) (by refine Drs.cons (by exact Dr.cl (by exact Cl.v _)) ?_; exact Drs.nil) (pu74) (by exact Enc.cl _) (by rfl) (by rfl) (by rfl) ?_
    refine wot_of0 rfl (opt_store_end (A := mR Z L s.adv ++ ex) (ex := []) (List.append_assoc _ _ _).symm hi (by rfl) (by rfl) (by rfl) (by rfl) (by trivial) (by exact Enc.len _) (by rfl) (by rfl)) (by intro i o hio h; rw [hF]; (exfalso; exact eff_newAt hX hio (by (rw [Nat.ble_eq]; omega)) h)) (by rfl) (by rfl) ?_
    refine wot_nil ?_
    (refine wct_ret ?_)
    refine fini_cell (by simp) rfl (by rfl) (end_get hi) (by exact Enc.len _) (by rfl) ⟨⟨_, rfl, fun _ => ⟨by dsimp only; omega, by dsimp only; omega⟩⟩, [_], by rw [List.append_assoc]⟩
theorem im76 {Z : Root} {L : List U8} {s : MS} {ex : List Root} {i : Inst} (h0 : 0 < s.bs.length) (hbl : s.bs.length ≤ 2 ^ 20) (hil : ∀ b ∈ s.bs, b.i.length ≤ 2 ^ 20) : Im Tryd.prog 76 [.pt 1 0 0, Enc.tv i] (mR Z L s ++ ex) (fun r Th' e => (r = .tup [] ∧ Th' = mR Z L (s.put i) ++ ex) ∧ e = allD (s.bs.length + 4 + ex.length)) := by
  have hcs : Nat.blt 0 (idxFlat bCell 0 s.bs).length = true := by rw [Nat.blt_eq, idxFlat_len bCell_len]; omega
  have hli := hil _ (getD_mem (d := (default : MB)) (show s.bs.length - 1 < s.bs.length by omega))
  refine im_fn (allD (s.bs.length + 4 + ex.length)) fn76 (by rfl) (by rfl) (by rfl) fun X hX hF hTb => ?_
  have hXF : X.f = allD X.p.length := by rw [hF, hX, List.length_append, mR_len]
  refine wct_region_seq (by simp) ?_
  refine wot_o rfl (opt_box_fz (by rfl) (by rfl) (by trivial)) (by rfl) (by rfl) (by rfl) ?_
  refine wot_nil ?_
  refine wct_region_seq (by simp) ?_
  refine wot_o rfl (opt_move (by rfl) (by rfl)) (by rfl) (by rfl) (by rfl) ?_
  refine wot_o rfl (by exact opt_nilCheck_pt (by rfl) (by rfl) (by rfl) (by rfl)) (by rfl) (by rfl) (by rfl) ?_
  refine wot_o rfl (by exact opt_fieldAddr_pt (by rfl) (by rfl) (by rfl) (by rfl)) (by rfl) (by rfl) (by rfl) ?_
  refine wot_o rfl (by exact opt_fieldAddr_pt (by rfl) (by rfl) (by rfl) (by rfl)) (by rfl) (by rfl) (by rfl) ?_
  refine wot_o rfl (by exact opt_load_pt_1 (by rfl) (by rfl) (by rfl) (by rfl)) (by rfl) (by rfl) (by rfl) ?_
  refine wot_o rfl (by exact opt_len_own (by rfl) (by rfl) (by rfl) (by rfl)) (by rfl) (by rfl) (by rfl) ?_
  refine wot_o rfl (opt_subN (by rfl) (by rfl) (by rfl) (by rfl) (by omega) (by omega)) (by rfl) (by rfl) (by rfl) ?_
  refine wot_o rfl (opt_assign (by rfl) (by rfl)) (by rfl) (by rfl) (by rfl) ?_
  refine wot_nil ?_
  refine wct_draw (by kernel_rfl) (u := [(4, 17)]) (by kernel_rfl) ?_
  refine wtt_o rfl (opt_move (by rfl) (by rfl)) (by rfl) (by rfl) (by rfl) ?_
  refine wtt_o rfl (by exact opt_nilCheck_pt (by rfl) (by rfl) (by rfl) (by rfl)) (by rfl) (by rfl) (by rfl) ?_
  refine wtt_o rfl (by exact opt_fieldAddr_pt (by rfl) (by rfl) (by rfl) (by rfl)) (by rfl) (by rfl) (by rfl) ?_
  refine wtt_o rfl (by exact opt_fieldAddr_pt (by rfl) (by rfl) (by rfl) (by rfl)) (by rfl) (by rfl) (by rfl) ?_
  refine wtt_o rfl (by exact opt_load_pt_1 (by rfl) (by rfl) (by rfl) (by rfl)) (by rfl) (by rfl) (by rfl) ?_
  refine wtt_o rfl (opt_move (by rfl) (by rfl)) (by rfl) (by rfl) (by rfl) ?_
  refine wtt_o rfl (opt_move (by rfl) (by rfl)) (by rfl) (by rfl) (by rfl) ?_
  refine wtt_o rfl (by exact opt_nilCheck_pt (by rfl) (by rfl) (by rfl) (by rfl)) (by rfl) (by rfl) (by rfl) ?_
  refine wtt_o rfl (by exact opt_fieldAddr_pt (by rfl) (by rfl) (by rfl) (by rfl)) (by rfl) (by rfl) (by rfl) ?_
  refine wtt_o rfl (by exact opt_fieldAddr_pt (by rfl) (by rfl) (by rfl) (by rfl)) (by rfl) (by rfl) (by rfl) ?_
  refine wtt_o rfl (by exact opt_load_pt_1 (by rfl) (by rfl) (by rfl) (by rfl)) (by rfl) (by rfl) (by rfl) ?_
  refine wtt_o rfl (opt_move (by rfl) (by rfl)) (by rfl) (by rfl) (by rfl) ?_
  refine wtt_o rfl (by exact opt_index_lN (by rfl) (by rfl) (by rfl) (by rfl) (by rfl) (by omega)) (by rfl) (by rfl) (by rfl) ?_
  refine wtt_o rfl (opt_fieldAddr_pt (by rfl) (by rfl) (by rfl) hcs) (by rfl) (by rfl) (by rfl) ?_
  refine wtt_o rfl (opt_loadI (by rfl) (by rfl) (by rfl) (by omega)) (by rfl) (by rfl) (by rfl) ?_
  refine wtt_o (x := Enc.tv i) rfl (opt_as (by exact opt_load_fp_row (by rfl) (by rfl) (by rfl)) (by rfl)) (by rfl) (by rfl) (by rfl) ?_
  refine wtt_o rfl (opt_lit_l ([i]) (by rfl) (by rfl) (by rfl) (by rfl) (by rfl) (by rfl) (by rfl) (by rfl) (by rfl) (by rfl)) (by rfl) (by rfl) (by rfl) ?_
  refine wtt_of rfl (opt_append_l (by rfl) (by rfl) (mR_row (getD_get (by omega))) rfl src_lst (by rfl) (by rfl) (by rfl) (by (simp only [List.length_append, List.length_cons, List.length_nil, List.length_take, List.length_drop, List.length_set, List.length_replicate]; omega)) (by rfl)) (allD_ok hXF _) (by rfl) (by rfl) (by rfl) ?_
  refine wtt_o rfl (by exact opt_index_lN (by rfl) (by rfl) (by rfl) (by rfl) (by rfl) (by omega)) (by rfl) (by rfl) (by rfl) ?_
  refine wtt_o rfl (opt_fieldAddr_pt (by rfl) (by rfl) (by rfl) hcs) (by rfl) (by rfl) (by rfl) ?_
  refine wtt_of0 rfl (opt_putI rfl (by rfl) (by rfl) (by rfl) (by rfl) (by rfl) h0) (allD_ok hXF _) (by rfl) (by rfl) ?_
  refine wtt_nil ?_
  refine ⟨⟨(by exact chk_pt (t := 32) (by rfl) (by rfl) (by rfl) (by rfl) (by rfl) (by rfl) (by rfl) (by rfl) (by rfl)), trivial⟩, ?_⟩
  refine fini_0 (by simp) rfl ?_
  exact ⟨rfl, rfl⟩
theorem im39 {Z : Root} {L : List U8} {s : MS} (hbl : s.bs.length ≤ 2 ^ 20) : Im Tryd.prog 39 [.pt 1 0 0] (mR Z L s) (fun r Th' e => (r = .tup [] ∧ Th' = mR Z L s.addB) ∧ e = allD (s.bs.length + 4)) := by
  have hcl : (idxFlat bCell 0 s.bs).length = s.bs.length * 14 := idxFlat_len bCell_len _ _
  refine im_fn (allD (s.bs.length + 4)) fn39 (by rfl) (by rfl) (by rfl) fun X hX hF hTb => ?_
  have hXF : X.f = allD X.p.length := by rw [hF, hX, mR_len]
  refine wct_region (by simp) ?_
  refine wot_o rfl (opt_move (by rfl) (by rfl)) (by rfl) (by rfl) (by rfl) ?_
  refine wot_o rfl (opt_move (by rfl) (by rfl)) (by rfl) (by rfl) (by rfl) ?_
  refine wot_o rfl (by exact opt_nilCheck_pt (by rfl) (by rfl) (by rfl) (by rfl)) (by rfl) (by rfl) (by rfl) ?_
  refine wot_o rfl (by exact opt_fieldAddr_pt (by rfl) (by rfl) (by rfl) (by rfl)) (by rfl) (by rfl) (by rfl) ?_
  refine wot_o rfl (by exact opt_fieldAddr_pt (by rfl) (by rfl) (by rfl) (by rfl)) (by rfl) (by rfl) (by rfl) ?_
  refine wot_o rfl (by exact opt_load_pt_1 (by rfl) (by rfl) (by rfl) (by rfl)) (by rfl) (by rfl) (by rfl) ?_
  refine wot_o rfl (opt_build (by rfl) (by rfl) (by rfl) (by rfl)) (by rfl) (by rfl) (by rfl) ?_
  refine wot_o rfl (opt_lit (by rfl) (by rfl) (by rfl) (by rfl) (by rfl) (by rfl) (by rfl) (by rfl)) (by rfl) (by rfl) (by rfl) ?_
  refine wot_of rfl (opt_append (by rfl) (by rfl) (by rfl) .fz (by rfl) (by rfl) (by rfl) (by rfl) (by rw [hcl]; omega) (by omega)) (allD_ok hXF _) (by rfl) (by rfl) (by rfl) ?_
  refine wot_o rfl (by exact opt_nilCheck_pt (by rfl) (by rfl) (by rfl) (by rfl)) (by rfl) (by rfl) (by rfl) ?_
  refine wot_o rfl (by exact opt_fieldAddr_pt (by rfl) (by rfl) (by rfl) (by rfl)) (by rfl) (by rfl) (by rfl) ?_
  refine wot_o rfl (by exact opt_fieldAddr_pt (by rfl) (by rfl) (by rfl) (by rfl)) (by rfl) (by rfl) (by rfl) ?_
  refine wot_of0 rfl (opt_store (by rfl) (by rfl) (by rfl) (by rfl) (by rfl) (by trivial) (by rfl) (by rfl) (by rfl)) (allD_ok hXF _) (by rfl) (by rfl) (wot_ghost (g_nilcell (i := 3) (s.bs.length * 14 + 0) 15 67 rfl (by rw [List.getElem?_append_right (by rw [List.length_take, List.length_drop, hcl]; omega)]; rw [List.length_take, List.length_drop, hcl, show s.bs.length * 14 + 0 - min (s.bs.length * 14) (s.bs.length * 14 - 0 * 14) = 0 by omega]; rfl)) ?_)
  refine wot_nil ?_
  refine fini_0 (by simp) rfl ?_
  exact ⟨rfl, blk_end (by simp [mR_len]) rfl mC_addB⟩
end Go.Ab
