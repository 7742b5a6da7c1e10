/- The road to a card of this seat: G28. Each theorem holds for every input that its own premises speak of. -/
import Derived.Test.YtaaeeiheeihjaaaDoorG27
set_option linter.all false
namespace Go.Ab
open Go.Proofs
theorem im35g {Z : Root} {L : List U8} {pos : Nat} {rest : List TV} {more : List Root} (hp : pos ≤ 2 ^ 40) (hL : LOk L) : Im Tryd.prog 35 [.pt 1 0 0] (Z :: ⟨0, some (84, lst false L :: ti (pos : Int) :: rest)⟩ :: more) (fun r Th' e => ((∃ v : Nat, r = ti (v : Int) ∧ v < 256) ∧ Th' = Z :: ⟨0, some (84, lst false L :: ti ((pos + 1 : Nat) : Int) :: rest)⟩ :: more) ∧ e = .at 1 1 2) := by
  refine im_fn (.at 1 1 2) fn35 (by rfl) (by rfl) (by rfl) fun X hX hF hTb => ?_
  refine wct_region_seq (by simp) ?_
  refine wot_o rfl (opt_assign_c (by rfl)) (by rfl) (by rfl) (by rfl) ?_
  refine wot_nil ?_
  refine wct_region_seq (by simp) ?_
  refine wot_o rfl (opt_move (by rfl) (by rfl)) (by rfl) (by rfl) (by rfl) ?_
  refine wot_o rfl (by exact opt_nilCheck_pt (by rfl) (by rfl) (by rfl) (by rfl)) (by rfl) (by rfl) (by rfl) ?_
  refine wot_o rfl (by exact opt_fieldAddr_pt (by rfl) (by rfl) (by rfl) (by rfl)) (by rfl) (by rfl) (by rfl) ?_
  refine wot_o rfl (by exact opt_load_pt_1 (by rfl) (by rfl) (by rfl) (by rfl)) (by rfl) (by rfl) (by rfl) ?_
  refine wot_o rfl (opt_add (by rfl) (by rfl) (by rfl) (by rfl) (by constructor <;> omega)) (by rfl) (by rfl) (by rfl) ?_
  refine wot_o rfl (by exact opt_nilCheck_pt (by rfl) (by rfl) (by rfl) (by rfl)) (by rfl) (by rfl) (by rfl) ?_
  refine wot_o rfl (by exact opt_fieldAddr_pt (by rfl) (by rfl) (by rfl) (by rfl)) (by rfl) (by rfl) (by rfl) ?_
  refine wot_of0 rfl (by exact opt_store (by rfl) (by rfl) (by rfl) (by rfl) (by rfl) (by trivial) (by rfl) (by rfl) (by rfl)) (by intro i o hio h; rw [hF]; exact h) (by rfl) (by rfl) ?_
  refine wot_nil ?_
  (refine wct_assoc ?_)
  refine wct_draw_seq (by kernel_rfl) (u := []) (by kernel_rfl) ?_
  refine wtt_o rfl (opt_move (by rfl) (by rfl)) (by rfl) (by rfl) (by rfl) ?_
  refine wtt_o rfl (by exact opt_nilCheck_pt (by rfl) (by rfl) (by rfl) (by rfl)) (by rfl) (by rfl) (by rfl) ?_
  refine wtt_o rfl (by exact opt_fieldAddr_pt (by rfl) (by rfl) (by rfl) (by rfl)) (by rfl) (by rfl) (by rfl) ?_
  refine wtt_o rfl (by exact opt_load_pt_1 (by rfl) (by rfl) (by rfl) (by rfl)) (by rfl) (by rfl) (by rfl) ?_
  refine wtt_o rfl (opt_move (by rfl) (by rfl)) (by rfl) (by rfl) (by rfl) ?_
  refine wtt_o rfl (by exact opt_nilCheck_pt (by rfl) (by rfl) (by rfl) (by rfl)) (by rfl) (by rfl) (by rfl) ?_
  refine wtt_o rfl (by exact opt_fieldAddr_pt (by rfl) (by rfl) (by rfl) (by rfl)) (by rfl) (by rfl) (by rfl) ?_
  refine wtt_o rfl (by exact opt_load_pt_1 (by rfl) (by rfl) (by rfl) (by rfl)) (by rfl) (by rfl) (by rfl) ?_
  refine wtt_o rfl (by exact opt_len_fz (by rfl) (by rfl) (by rfl)) (by rfl) (by rfl) (by rfl) ?_
  refine wtt_o rfl (opt_cmp (by rfl) (by rfl) (by rfl) (by rfl) (by rfl)) (by rfl) (by rfl) (by rfl) ?_
  refine wtt_nil ?_
  refine ⟨trivial, ?_⟩
  refine wct_if_seq (by rfl) (by rfl) (fun c1 => ?_) (fun c1 => ?_)
  · (refine wct_assoc ?_)
    try simp only [Int.toNat_natCast] at c1
    refine wct_region_seq (by simp) ?_
    refine wot_o rfl (opt_assign_c (by rfl)) (by rfl) (by rfl) (by rfl) ?_
    refine wot_nil ?_
    (refine wct_ret_seq ?_)
    refine fini_1 (by simp) rfl (by rfl) ?_
    exact ⟨⟨0, rfl, by decide⟩, rfl⟩
  · (refine wct_skip_seq ?_)
    try simp only [Int.toNat_natCast] at c1
    have hk : pos < L.length := by omega
    have hv := hL (at' L pos) (by simp [at', hk])
    obtain ⟨v, hv2⟩ : ∃ v : Nat, (at' L pos).v = v := ⟨(at' L pos).v.toNat, by omega⟩
    refine wct_draw_seq (by kernel_rfl) (u := []) (by kernel_rfl) ?_
    refine wtt_o rfl (opt_move (by rfl) (by rfl)) (by rfl) (by rfl) (by rfl) ?_
    refine wtt_o rfl (by exact opt_nilCheck_pt (by rfl) (by rfl) (by rfl) (by rfl)) (by rfl) (by rfl) (by rfl) ?_
    refine wtt_o rfl (by exact opt_fieldAddr_pt (by rfl) (by rfl) (by rfl) (by rfl)) (by rfl) (by rfl) (by rfl) ?_
    refine wtt_o rfl (by exact opt_load_pt_1 (by rfl) (by rfl) (by rfl) (by rfl)) (by rfl) (by rfl) (by rfl) ?_
    refine wtt_o rfl (opt_move (by rfl) (by rfl)) (by rfl) (by rfl) (by rfl) ?_
    refine wtt_o rfl (by exact opt_nilCheck_pt (by rfl) (by rfl) (by rfl) (by rfl)) (by rfl) (by rfl) (by rfl) ?_
    refine wtt_o rfl (by exact opt_fieldAddr_pt (by rfl) (by rfl) (by rfl) (by rfl)) (by rfl) (by rfl) (by rfl) ?_
    refine wtt_o rfl (by exact opt_load_pt_1 (by rfl) (by rfl) (by rfl) (by rfl)) (by rfl) (by rfl) (by rfl) ?_
    refine wtt_o rfl (opt_sub (by rfl) (by rfl) (by rfl) (by rfl) (by constructor <;> omega)) (by rfl) (by rfl) (by rfl) ?_
    refine wtt_o rfl (by exact opt_index_lst (by rfl) (by rfl) (by rfl) (by rfl) (by omega) (by omega) (by rfl)) (by rfl) (by rfl) (by rfl) ?_
    refine wtt_o rfl (by exact opt_load_fp_1 (by rfl) (by rfl) (by rfl)) (by rfl) (by rfl) (by rfl) ?_
    refine wtt_o rfl (opt_conv (by rfl) (by rfl) (convU8 _) (by rfl) (by rfl)) (by rfl) (by rfl) (by rfl) ?_
    refine wtt_o rfl (opt_assign (by rfl) (by rfl)) (by rfl) (by rfl) (by rfl) ?_
    refine wtt_nil ?_
    refine ⟨trivial, ?_⟩
    (refine wct_ret ?_)
    refine fini_1 (by simp) rfl (by rfl) ?_
    have e : ((pos : Int) + 1 - 1).toNat = pos := by omega
    rw [e, hv2, wrap64 ⟨by omega, by omega⟩]
    exact ⟨⟨v, rfl, by omega⟩, rfl⟩
def arrs5 : List Arr := [⟨⟨#[97]⟩, 1, 1, 8⟩, ⟨⟨#[102]⟩, 1, 2, 4⟩, ⟨⟨#[115]⟩, 2, 1, 8⟩, ⟨⟨#[112]⟩, 3, 1, 4⟩, ⟨⟨#[98]⟩, 2, 3, 4⟩]
theorem pu36 : Pu Tryd.prog 36 [] (Eq (lst false arrs5)) := by
  refine pu_fn fn36 (by rfl) (by rfl) (by rfl) fun X hX hTb => ?_
  refine wct_region_seq (by simp) ?_
  refine wot_o rfl (opt_assign_c (by rfl)) (by rfl) (by rfl) (by rfl) ?_
  refine wot_nil ?_
  refine wct_region_seq (by simp) ?_
  refine wot_o (x := Enc.tv (⟨⟨#[97]⟩, 1, 1, 8⟩ : Arr)) rfl (opt_as (opt_build (by rfl) (by rfl) (by rfl) (by rfl)) (by rfl)) (by rfl) (by rfl) (by rfl) ?_
  refine wot_o (x := Enc.tv (⟨⟨#[102]⟩, 1, 2, 4⟩ : Arr)) rfl (opt_as (opt_build (by rfl) (by rfl) (by rfl) (by rfl)) (by rfl)) (by rfl) (by rfl) (by rfl) ?_
  refine wot_o (x := Enc.tv (⟨⟨#[115]⟩, 2, 1, 8⟩ : Arr)) rfl (opt_as (opt_build (by rfl) (by rfl) (by rfl) (by rfl)) (by rfl)) (by rfl) (by rfl) (by rfl) ?_
  refine wot_o (x := Enc.tv (⟨⟨#[112]⟩, 3, 1, 4⟩ : Arr)) rfl (opt_as (opt_build (by rfl) (by rfl) (by rfl) (by rfl)) (by rfl)) (by rfl) (by rfl) (by rfl) ?_
  refine wot_o (x := Enc.tv (⟨⟨#[98]⟩, 2, 3, 4⟩ : Arr)) rfl (opt_as (opt_build (by rfl) (by rfl) (by rfl) (by rfl)) (by rfl)) (by rfl) (by rfl) (by rfl) ?_
  refine wot_o rfl (opt_lit_l (arrs5) (by rfl) (by rfl) (by rfl) (by rfl) (by rfl) (by rfl) (by rfl) (by rfl) (by rfl) (by rfl)) (by rfl) (by rfl) (by rfl) ?_
  refine wot_o rfl (opt_assign (by rfl) (by rfl)) (by rfl) (by rfl) (by rfl) ?_
  refine wot_nil ?_
  (refine wct_ret ?_)
  refine fin_1c (by simp) rfl (by rfl) (by exact lst_cl _) ?_
  rfl
def made0 (g sb : Int) (p : Nat) : MS := ⟨p, g, sb, 6, 0, 3, arrs5, 0, [], 0, []⟩
theorem made0_st {g sb : Int} {p : Nat} (hp : p ≤ 100) : St (made0 g sb p) 100 ((0 + 1 : Nat) : Int) 0 0 (6 + 2 * ((0 : Nat) : Int)) :=
  ⟨⟨hp, Nat.zero_le _, fun b hb => by simp [made0] at hb, Nat.zero_le _, rfl, Int.le_refl _, fun b hb => by simp [made0] at hb, fun b hb => by simp [made0] at hb⟩, rfl, rfl, rfl⟩
set_option maxHeartbeats 4000000 in
theorem pu11s {L : List U8} (hL : LOk L) : Pu Tryd.prog 11 [.agg [lst false L]] (fun r => ∃ c, r = Enc.tv c ∧ Fit c ∧ c.regs ≤ 200) := by
  refine pu_fn fn11 (by rfl) (by rfl) (by rfl) fun X hX hTb => ?_
  refine wct_region_seq (by simp) ?_
  refine wot_o rfl (opt_box_fz (by rfl) (by rfl) (by trivial)) (by rfl) (by rfl) (by rfl) ?_
  refine wot_o rfl (opt_alloc (by rfl)) (by rfl) (by rfl) (by rfl) ?_
  refine wot_nil ?_
  refine wct_region_seq (by simp) ?_
  refine wot_o rfl (by exact opt_fieldAddr_fp (by rfl) (by rfl)) (by rfl) (by rfl) (by rfl) ?_
  refine wot_o rfl (by exact opt_load_fp_1 (by rfl) (by rfl) (by rfl)) (by rfl) (by rfl) (by rfl) ?_
  refine wot_o rfl (opt_build (by rfl) (by rfl) (by rfl) (by rfl)) (by rfl) (by rfl) (by rfl) ?_
  refine wot_o rfl (opt_box (by rfl) (by rfl) (by trivial)) (by rfl) (by rfl) (by rfl) ?_
  refine wot_o rfl (opt_assign (by rfl) (by rfl)) (by rfl) (by rfl) (by rfl) ?_
  refine wot_nil ?_
  refine wct_ghost (E' := [(2, .pt 0 0 0), (3, .pt 1 0 0)]) (Th' := [Z0, ⟨0, some (84, [lst false L, ti ((0 : Nat) : Int), ti 0, ti 0, ti 0, ti 0, ti 0, .v (.slice none 0 0), .v (.slice none 0 0), .v (.slice none 0 0)])⟩]) (fun T G p h => ⟨p, Rl.sub (F := [(2, .pt 0 0 0), (3, .pt 1 0 0)]) (show Rl X _ ([Z0, ⟨0, some (84, [lst false L, ti ((0 : Nat) : Int), ti 0, ti 0, ti 0, ti 0, ti 0, .v (.slice none 0 0), .v (.slice none 0 0), .v (.slice none 0 0)])⟩]) T G p from h) (by exact ⟨rfl, rfl, trivial⟩)⟩) ?_
  refine wct_draw_seq (by kernel_rfl) (u := [(1, 3), (1, 7), (6, 7)]) (by kernel_rfl) ?_
  refine wtt_o rfl (opt_move (by rfl) (by rfl)) (by rfl) (by rfl) (by rfl) ?_
  refine wtt_o rfl (opt_lit_l ([(4 : Int), 1, 2, 8, 6]) (by rfl) (by rfl) (by rfl) (by rfl) (by rfl) (by rfl) (by rfl) (by rfl) (by rfl) (by rfl)) (by rfl) (by rfl) (by rfl) ?_
  refine wtt_o rfl (opt_move (by rfl) (by rfl)) (by rfl) (by rfl) (by rfl) ?_
  refine wtt_ci hTb rfl (call_bin (by rfl) (by rfl)) (im35g (by decide) hL) (fun _ _ _ h => h.2) (EffOk.pure hX) (by rfl) (by rfl) (by rfl) ?_
  rintro r Th' ⟨⟨⟨v, rfl, hv⟩, rfl⟩, _⟩
  refine wtt_o rfl (by exact opt_remNC (by rfl) (by rfl) (by rfl) (by rfl)) (by rfl) (by rfl) (by rfl) ?_
  refine wtt_o rfl (opt_index_lstN (by rfl) (by rfl) (by rfl) (by rfl) (by show _ < 5; omega) (by rfl)) (by rfl) (by rfl) (by rfl) ?_
  refine wtt_o rfl (by exact opt_load_fp_1 (by rfl) (by rfl) (by rfl)) (by rfl) (by rfl) (by rfl) ?_
  refine wtt_c hTb rfl (call_bin (by rfl) (by rfl)) (by exact Drs.nil) (pu36) (by exact lst_cl _) (by rfl) (by rfl) (by rfl) ?_
  refine wtt_o rfl (opt_build (by rfl) (by rfl) (by rfl) (by rfl)) (by rfl) (by rfl) (by rfl) ?_
  refine wtt_o rfl (by exact opt_nilCheck_pt (by rfl) (by rfl) (by rfl) (by rfl)) (by rfl) (by rfl) (by rfl) ?_
  refine wtt_o rfl (by exact opt_fieldAddr_pt (by rfl) (by rfl) (by rfl) (by rfl)) (by rfl) (by rfl) (by rfl) ?_
  refine wtt_of0 rfl (by exact opt_store (by rfl) (by rfl) (by rfl) (by rfl) (by rfl) (by trivial) (by rfl) (by rfl) (by rfl)) (EffOk.pure hX) (by rfl) (by rfl) ?_
  refine wtt_nil ?_
  refine ⟨⟨(by exact ChkT.lay (by rfl) (by rfl) (by rfl) (by rfl) (by rfl)), (by exact ChkT.lay (by rfl) (by rfl) (by rfl) (by rfl) (by rfl)), (by exact ChkT.fp (by rfl) (by rfl) (by rfl) (by rfl) (by rfl)), trivial⟩, ?_⟩
  (refine wct_assoc ?_)
  refine wct_ghost (g_nilcell (i := 1) 8 3 125 rfl rfl) ?_
  refine wct_ghost (g_nilcell (i := 1) 9 14 64 rfl rfl) ?_
  generalize at' [(4 : Int), 1, 2, 8, 6] (v % 5) = gp
  refine wct_ghost (E' := [(2, .pt 0 0 0), (3, .pt 1 0 0)]) (Th' := mR Z0 L (made0 gp 1 1)) (fun T G p h => ⟨p, Rl.sub (F := [(2, .pt 0 0 0), (3, .pt 1 0 0)]) (show Rl X _ (mR Z0 L (made0 gp 1 1)) T G p from h) (by exact ⟨rfl, rfl, trivial⟩)⟩) ?_
  refine wct_region_seq (by simp) ?_
  refine wot_o rfl (opt_move (by rfl) (by rfl)) (by rfl) (by rfl) (by rfl) ?_
  refine wot_ci hTb rfl (call_bin (by rfl) (by rfl)) (im35z (made0_st (by decide)) (by omega) hL) (fun _ _ _ h => h.2) (EffOk.pure hX) (by rfl) (by rfl) (by rfl) ?_
  rintro r Th' ⟨⟨⟨v2, rfl, hv2⟩, rfl⟩, _⟩
  refine wot_o rfl (by exact opt_remNC (by rfl) (by rfl) (by rfl) (by rfl)) (by rfl) (by rfl) (by rfl) ?_
  refine wot_o rfl (opt_assign (by rfl) (by rfl)) (by rfl) (by rfl) (by rfl) ?_
  refine wot_nil ?_
  refine wct_loop2 (fun (i : Nat) (sb : Int) => i ≤ 2 ∧ 1 ≤ sb ∧ (i = 2 → sb ≤ 1) ∧ (i = 1 → sb ≤ 2) ∧ sb ≤ 4) (fun (i : Nat) (sb : Int) => [(2, .pt 0 0 0), (3, .pt 1 0 0), (4, ti (i : Int))]) (fun (i : Nat) (sb : Int) => mR Z0 L (made0 gp sb 2)) (fun (i : Nat) (sb : Int) => i) (v2 % 3) 1 (by exact ⟨rfl, rfl, rfl, trivial⟩) (by rfl) ?_ ?_
  · exact ⟨by omega, by omega, fun _ => by omega, fun _ => by omega, by omega⟩
  rintro i sb ⟨hi, hs1, hs2, hs3, hs4⟩
  (refine wct_assoc ?_)
  refine wct_cut1 (fun (b : Bool) => b = true → 0 < i) (fun (b : Bool) => [(2, .pt 0 0 0), (3, .pt 1 0 0), (4, ti (i : Int)), (41, tb b)]) (fun (b : Bool) => mR Z0 L (made0 gp sb 2)) ?_ ?_
  · (skip)
    refine wct_draw (by kernel_rfl) (u := []) (by kernel_rfl) ?_
    refine wtt_o rfl (opt_move (by rfl) (by rfl)) (by rfl) (by rfl) (by rfl) ?_
    refine wtt_o rfl (opt_cmp (by rfl) (by rfl) (by rfl) (by rfl) (by rfl)) (by rfl) (by rfl) (by rfl) ?_
    refine wtt_o rfl (opt_move (by rfl) (by rfl)) (by rfl) (by rfl) (by rfl) ?_
    refine wtt_split (d := 27) (by rfl) (fun g3 => ?_) (fun g3 => ?_)
    · refine wtt_og rfl (opt_move (by rfl) (by rfl)) (by rfl) (by rfl) (by rfl) (by rfl) (by rfl) (by rfl) ?_
      refine wtt_og rfl (by exact opt_nilCheck_pt (by rfl) (by rfl) (by rfl) (by rfl)) (by rfl) (by rfl) (by rfl) (by rfl) (by rfl) (by rfl) ?_
      refine wtt_og rfl (by exact opt_fieldAddr_pt (by rfl) (by rfl) (by rfl) (by rfl)) (by rfl) (by rfl) (by rfl) (by rfl) (by rfl) (by rfl) ?_
      refine wtt_og rfl (by exact opt_fieldAddr_pt (by rfl) (by rfl) (by rfl) (by rfl)) (by rfl) (by rfl) (by rfl) (by rfl) (by rfl) (by rfl) ?_
      refine wtt_og rfl (by exact opt_load_pt_1 (by rfl) (by rfl) (by rfl) (by rfl)) (by rfl) (by rfl) (by rfl) (by rfl) (by rfl) (by rfl) ?_
      refine wtt_og rfl (opt_move (by rfl) (by rfl)) (by rfl) (by rfl) (by rfl) (by rfl) (by rfl) (by rfl) ?_
      refine wtt_og rfl (by exact opt_nilCheck_pt (by rfl) (by rfl) (by rfl) (by rfl)) (by rfl) (by rfl) (by rfl) (by rfl) (by rfl) (by rfl) ?_
      refine wtt_og rfl (by exact opt_fieldAddr_pt (by rfl) (by rfl) (by rfl) (by rfl)) (by rfl) (by rfl) (by rfl) (by rfl) (by rfl) (by rfl) ?_
      refine wtt_og rfl (by exact opt_fieldAddr_pt (by rfl) (by rfl) (by rfl) (by rfl)) (by rfl) (by rfl) (by rfl) (by rfl) (by rfl) (by rfl) ?_
      refine wtt_og rfl (by exact opt_load_pt_1 (by rfl) (by rfl) (by rfl) (by rfl)) (by rfl) (by rfl) (by rfl) (by rfl) (by rfl) (by rfl) ?_
      refine wtt_og rfl (opt_mul (by rfl) (by rfl) (by rfl) (by rfl) (show In64 (2 * sb) by constructor <;> omega)) (by rfl) (by rfl) (by rfl) (by rfl) (by rfl) (by rfl) ?_
      refine wtt_og rfl (opt_ibin (by rfl) (by rfl) (by rfl) (by rfl) (show ibin .rem .i64 gp (2 * sb) = some _ from if_neg (by omega)) (by rfl)) (by rfl) (by rfl) (by rfl) (by rfl) (by rfl) (by rfl) ?_
      refine wtt_og rfl (opt_cmp (by rfl) (by rfl) (by rfl) (by rfl) (by rfl)) (by rfl) (by rfl) (by rfl) (by rfl) (by rfl) (by rfl) ?_
      refine wtt_o rfl (by exact opt_pick_t (by rfl) (by rfl) (by rfl) (by rfl) (by rfl) (by rfl) (by rfl)) (by rfl) (by rfl) (by rfl) ?_
      refine wtt_nil ?_
      refine ⟨trivial, ?_⟩
      (refine qst_cut ?_)
      refine cutmk (decide (gp.tmod (2 * sb) = 0)) ?_ (by exact ⟨rfl, rfl, rfl, rfl, trivial⟩) (by rfl)
      try dsimp only
      intro _; omega
    · refine wtt_sg (by rfl) (by rfl) (by rfl) (by rfl) (by rfl) (by rfl) ?_
      refine wtt_sg (by rfl) (by rfl) (by rfl) (by rfl) (by rfl) (by rfl) ?_
      refine wtt_sg (by rfl) (by rfl) (by rfl) (by rfl) (by rfl) (by rfl) ?_
      refine wtt_sg (by rfl) (by rfl) (by rfl) (by rfl) (by rfl) (by rfl) ?_
      refine wtt_sg (by rfl) (by rfl) (by rfl) (by rfl) (by rfl) (by rfl) ?_
      refine wtt_sg (by rfl) (by rfl) (by rfl) (by rfl) (by rfl) (by rfl) ?_
      refine wtt_sg (by rfl) (by rfl) (by rfl) (by rfl) (by rfl) (by rfl) ?_
      refine wtt_sg (by rfl) (by rfl) (by rfl) (by rfl) (by rfl) (by rfl) ?_
      refine wtt_sg (by rfl) (by rfl) (by rfl) (by rfl) (by rfl) (by rfl) ?_
      refine wtt_sg (by rfl) (by rfl) (by rfl) (by rfl) (by rfl) (by rfl) ?_
      refine wtt_sg (by rfl) (by rfl) (by rfl) (by rfl) (by rfl) (by rfl) ?_
      refine wtt_sg (by rfl) (by rfl) (by rfl) (by rfl) (by rfl) (by rfl) ?_
      refine wtt_sg (by rfl) (by rfl) (by rfl) (by rfl) (by rfl) (by rfl) ?_
      refine wtt_o rfl (by exact opt_pick_f (by rfl) (by rfl) (by rfl) (by rfl) (by rfl) (by rfl) (by rfl)) (by rfl) (by rfl) (by rfl) ?_
      refine wtt_nil ?_
      refine ⟨trivial, ?_⟩
      (refine qst_cut ?_)
      refine cutmk false ?_ (by exact ⟨rfl, rfl, rfl, rfl, trivial⟩) (by rfl)
      try dsimp only
      intro e; cases e
  rintro b hb
  refine wct_ifb_seq (by rfl) (by rfl) (fun c1 => ?_) (fun c1 => ?_)
  · (refine wct_skip_seq ?_; refine wct_block_rg ?_)
    try simp only [Int.toNat_natCast] at c1
    have hb2 := hb c1
    refine wct_region (by simp) ?_
    refine wot_o rfl (opt_move (by rfl) (by rfl)) (by rfl) (by rfl) (by rfl) ?_
    refine wot_o rfl (opt_move (by rfl) (by rfl)) (by rfl) (by rfl) (by rfl) ?_
    refine wot_o rfl (by exact opt_nilCheck_pt (by rfl) (by rfl) (by rfl) (by rfl)) (by rfl) (by rfl) (by rfl) ?_
    refine wot_o rfl (by exact opt_fieldAddr_pt (by rfl) (by rfl) (by rfl) (by rfl)) (by rfl) (by rfl) (by rfl) ?_
    refine wot_o rfl (by exact opt_fieldAddr_pt (by rfl) (by rfl) (by rfl) (by rfl)) (by rfl) (by rfl) (by rfl) ?_
    refine wot_o rfl (by exact opt_load_pt_1 (by rfl) (by rfl) (by rfl) (by rfl)) (by rfl) (by rfl) (by rfl) ?_
    refine wot_o rfl (opt_mul (by rfl) (by rfl) (by rfl) (by rfl) (show In64 (2 * sb) by constructor <;> omega)) (by rfl) (by rfl) (by rfl) ?_
    refine wot_o rfl (by exact opt_nilCheck_pt (by rfl) (by rfl) (by rfl) (by rfl)) (by rfl) (by rfl) (by rfl) ?_
    refine wot_o rfl (by exact opt_fieldAddr_pt (by rfl) (by rfl) (by rfl) (by rfl)) (by rfl) (by rfl) (by rfl) ?_
    refine wot_o rfl (by exact opt_fieldAddr_pt (by rfl) (by rfl) (by rfl) (by rfl)) (by rfl) (by rfl) (by rfl) ?_
    refine wot_of0 rfl (by exact opt_store (by rfl) (by rfl) (by rfl) (by rfl) (by rfl) (by trivial) (by rfl) (by rfl) (by rfl)) (EffOk.pure hX) (by rfl) (by rfl) ?_
    refine wot_nil ?_
    (refine qbt_normal ?_; refine qst_wct ?_)
    refine wct_region (by simp) ?_
    refine wot_o rfl (opt_move (by rfl) (by rfl)) (by rfl) (by rfl) (by rfl) ?_
    refine wot_o rfl (opt_subN (by rfl) (by rfl) (by rfl) (by rfl) (by omega) (by omega)) (by rfl) (by rfl) (by rfl) ?_
    refine wot_o rfl (opt_assign (by rfl) (by rfl)) (by rfl) (by rfl) (by rfl) ?_
    refine wot_nil ?_
    (refine qst_loop ?_)
    refine rnd (i - 1, 2 * sb) (by (try simp only); omega) ?_ (by exact ⟨rfl, rfl, rfl, trivial⟩) (by rfl)
    try dsimp only
    exact ⟨by omega, by omega, fun _ => by omega, fun _ => by omega, by omega⟩
  · (refine wct_exit_seq ?_; refine wct_assoc ?_)
    try simp only [Int.toNat_natCast] at c1
    refine wct_region_seq (by simp) ?_
    refine wot_o rfl (opt_move (by rfl) (by rfl)) (by rfl) (by rfl) (by rfl) ?_
    refine wot_ci hTb rfl (call_bin (by rfl) (by rfl)) (im35z (made0_st (by decide)) (by omega) hL) (fun _ _ _ h => h.2) (EffOk.pure hX) (by rfl) (by rfl) (by rfl) ?_
    rintro r Th' ⟨⟨⟨v3, rfl, hv3⟩, rfl⟩, _⟩
    refine wot_o rfl (by exact opt_remNC (by rfl) (by rfl) (by rfl) (by rfl)) (by rfl) (by rfl) (by rfl) ?_
    refine wot_o rfl (opt_assign (by rfl) (by rfl)) (by rfl) (by rfl) (by rfl) ?_
    refine wot_nil ?_
    refine wct_loop4 (fun (i : Nat) (nb : Nat) (nl : Nat) (t : MS) => i ≤ 2 ∧ nl + i ≤ 2 ∧ St t (100 + 1000 * (2 - i)) ((nb + 1 : Nat) : Int) nb nl (6 + 2 * (nl : Int))) (fun (i : Nat) (nb : Nat) (nl : Nat) (t : MS) => [(2, .pt 0 0 0), (3, .pt 1 0 0), (5, ti (i : Int))]) (fun (i : Nat) (nb : Nat) (nl : Nat) (t : MS) => mR Z0 L t) (fun (i : Nat) (nb : Nat) (nl : Nat) (t : MS) => i) (v3 % 3) 0 0 (made0 gp sb 3) (by exact ⟨rfl, rfl, rfl, trivial⟩) (by rfl) ?_ ?_
    · exact ⟨by omega, by omega, (made0_st (by decide)).le (by omega)⟩
    rintro i nb nl t ⟨hi2, hnl, ht⟩
    (refine wct_assoc ?_)
    refine wct_region_seq (by simp) ?_
    refine wot_o rfl (opt_move (by rfl) (by rfl)) (by rfl) (by rfl) (by rfl) ?_
    refine wot_o rfl (opt_cmp (by rfl) (by rfl) (by rfl) (by rfl) (by rfl)) (by rfl) (by rfl) (by rfl) ?_
    refine wot_nil ?_
    refine wct_if_seq (by rfl) (by rfl) (fun c2 => ?_) (fun c2 => ?_)
    · (refine wct_skip_seq ?_; refine wct_block_sq ?_)
      try simp only [Int.toNat_natCast] at c2
      refine wct_region_seq (by simp) ?_
      refine wot_o rfl (opt_move (by rfl) (by rfl)) (by rfl) (by rfl) (by rfl) ?_
      refine wot_o rfl (opt_move (by rfl) (by rfl)) (by rfl) (by rfl) (by rfl) ?_
      refine wot_ci hTb rfl (call_bin (by rfl) (by rfl)) (im35z ht (by omega) hL) (fun _ _ _ h => h.2) (EffOk.pure hX) (by rfl) (by rfl) (by rfl) ?_
      rintro r Th' ⟨⟨⟨v4, rfl, hv4⟩, rfl⟩, _⟩
      refine wot_o rfl (by exact opt_remNC (by rfl) (by rfl) (by rfl) (by rfl)) (by rfl) (by rfl) (by rfl) ?_
      refine wot_ci hTb rfl (call_bin (by rfl) (by rfl)) (im37 ht.adv (by omega) hL (by omega)) (fun _ _ _ h => h.2) (EffOk.pure hX) (by rfl) (by rfl) (by rfl) ?_
      rintro r Th' ⟨⟨q, rfl, hq⟩, _⟩
      refine wot_nil ?_
      (refine wct_assoc ?_)
      refine wct_region_seq (by simp) ?_
      refine wot_o rfl (opt_move (by rfl) (by rfl)) (by rfl) (by rfl) (by rfl) ?_
      refine wot_ci hTb rfl (call_bin (by rfl) (by rfl)) (im35z hq (by omega) hL) (fun _ _ _ h => h.2) (EffOk.pure hX) (by rfl) (by rfl) (by rfl) ?_
      rintro r Th' ⟨⟨⟨v5, rfl, hv5⟩, rfl⟩, _⟩
      refine wot_o rfl (by exact opt_remNC (by rfl) (by rfl) (by rfl) (by rfl)) (by rfl) (by rfl) (by rfl) ?_
      refine wot_o rfl (opt_cmp (by rfl) (by rfl) (by rfl) (by rfl) (by rfl)) (by rfl) (by rfl) (by rfl) ?_
      refine wot_nil ?_
      refine wct_cut3 (fun (nb2 : Nat) (nl2 : Nat) (t2 : MS) => St t2 (100 + 1000 * (2 - i) + 700) ((nb2 : Nat) : Int) nb2 nl2 (6 + 2 * (nl2 : Int)) ∧ nl2 ≤ nl + 1 ∧ 0 < nb2) (fun (nb2 : Nat) (nl2 : Nat) (t2 : MS) => [(2, .pt 0 0 0), (3, .pt 1 0 0), (5, ti (i : Int))]) (fun (nb2 : Nat) (nl2 : Nat) (t2 : MS) => mR Z0 L t2) ?_ ?_
      · (skip)
        refine wct_if (by rfl) (by rfl) (fun c3 => ?_) (fun c3 => ?_)
        · (skip)
          try simp only [Int.toNat_natCast] at c3
          refine wct_region_seq (by simp) ?_
          refine wot_o rfl (opt_move (by rfl) (by rfl)) (by rfl) (by rfl) (by rfl) ?_
          refine wot_ci hTb rfl (call_bin (by rfl) (by rfl)) (im38 hq.adv rfl (by omega) hL (by omega) (by omega)) (fun _ _ _ h => h.2) (EffOk.pure hX) (by rfl) (by rfl) (by rfl) ?_
          rintro r Th' ⟨⟨q2, ⟨gar, rfl⟩, hq2⟩, _⟩
          refine wot_nil ?_
          refine wct_ghost (g_pop (F := [(2, .pt 0 0 0), (3, .pt 1 0 0), (5, ti (i : Int))]) (Th1 := mR Z0 L q2) (gar := _) rfl (by rw [hX]; exact Nat.zero_le _) (by exact ⟨rfl, rfl, rfl, trivial⟩) (by exact ⟨Lo.pt (by rfl), Lo.pt (by rfl), Lo.cl (Cl.v _), trivial⟩) lo_mR) ?_
          refine wct_region (by simp) ?_
          refine wot_o rfl (opt_move (by rfl) (by rfl)) (by rfl) (by rfl) (by rfl) ?_
          refine wot_ci hTb rfl (call_bin (by rfl) (by rfl)) (im39z hq2 (by omega)) (fun _ _ _ h => h.2) (EffOk.pure hX) (by rfl) (by rfl) (by rfl) ?_
          rintro r Th' ⟨⟨rfl, rfl⟩, _⟩
          refine wot_nil ?_
          (refine qst_cut ?_)
          refine cutmk (nb + v4 % 3 + 1 + 3, nl + 1, q2.addB) ?_ (by exact ⟨rfl, rfl, rfl, trivial⟩) (by rfl)
          try dsimp only
          refine ⟨?_, by omega, by omega⟩
          have e := (hq2.addB (by omega)).le (B := 100 + 1000 * (2 - i) + 700) (by omega)
          have e1 : ((nb + v4 % 3 + 1 : Nat) : Int) + 3 = ((nb + v4 % 3 + 1 + 3 : Nat) : Int) := by omega
          have e2 : 6 + 2 * (nl : Int) + 2 = 6 + 2 * ((nl + 1 : Nat) : Int) := by omega
          rw [e1, e2] at e
          exact e
        · (refine wct_skip ?_; refine qst_cut ?_)
          try simp only [Int.toNat_natCast] at c3
          refine cutmk (nb + v4 % 3 + 1, nl, q.adv) ?_ (by exact ⟨rfl, rfl, rfl, trivial⟩) (by rfl)
          try dsimp only
          exact ⟨hq.adv.le (by omega), by omega, by omega⟩
      rintro nb2 nl2 t2 ⟨h2, hnl2, hnb2⟩
      have ln2 := h2.nb
      have bl2 := h2.mi.bl
      refine wct_region_seq (by simp) ?_
      refine wot_o rfl (opt_move (by rfl) (by rfl)) (by rfl) (by rfl) (by rfl) ?_
      refine wot_o rfl (by exact opt_nilCheck_pt (by rfl) (by rfl) (by rfl) (by rfl)) (by rfl) (by rfl) (by rfl) ?_
      refine wot_o rfl (by exact opt_fieldAddr_pt (by rfl) (by rfl) (by rfl) (by rfl)) (by rfl) (by rfl) (by rfl) ?_
      refine wot_o rfl (by exact opt_fieldAddr_pt (by rfl) (by rfl) (by rfl) (by rfl)) (by rfl) (by rfl) (by rfl) ?_
      refine wot_o rfl (by exact opt_load_pt_1 (by rfl) (by rfl) (by rfl) (by rfl)) (by rfl) (by rfl) (by rfl) ?_
      refine wot_o rfl (by exact opt_len_own (by rfl) (by rfl) (by rfl) (by rfl)) (by rfl) (by rfl) (by rfl) ?_
      refine wot_o rfl (opt_subN (by rfl) (by rfl) (by rfl) (by rfl) (by omega) (by omega)) (by rfl) (by rfl) (by rfl) ?_
      refine wot_o rfl (opt_assign (by rfl) (by rfl)) (by rfl) (by rfl) (by rfl) ?_
      refine wot_nil ?_
      rw [ln2]
      refine wct_region_seq (by simp) ?_
      refine wot_o rfl (opt_move (by rfl) (by rfl)) (by rfl) (by rfl) (by rfl) ?_
      refine wot_o rfl (by exact opt_nilCheck_pt (by rfl) (by rfl) (by rfl) (by rfl)) (by rfl) (by rfl) (by rfl) ?_
      refine wot_o rfl (by exact opt_fieldAddr_pt (by rfl) (by rfl) (by rfl) (by rfl)) (by rfl) (by rfl) (by rfl) ?_
      refine wot_o rfl (by exact opt_fieldAddr_pt (by rfl) (by rfl) (by rfl) (by rfl)) (by rfl) (by rfl) (by rfl) ?_
      refine wot_o rfl (by exact opt_load_pt_1 (by rfl) (by rfl) (by rfl) (by rfl)) (by rfl) (by rfl) (by rfl) ?_
      refine wot_o rfl (opt_move (by rfl) (by rfl)) (by rfl) (by rfl) (by rfl) ?_
      refine wot_o rfl (opt_move (by rfl) (by rfl)) (by rfl) (by rfl) (by rfl) ?_
      refine wot_o rfl (opt_add (by rfl) (by rfl) (by rfl) (by rfl) (by constructor <;> omega)) (by rfl) (by rfl) (by rfl) ?_
      refine wot_o rfl (opt_build (by rfl) (by rfl) (by rfl) (by rfl)) (by rfl) (by rfl) (by rfl) ?_
      refine wot_o (x := Enc.tv (⟨3, 0, zO, zO, zO, ((nb2 - 1 : Nat) : Int) + 1, 0⟩ : Term)) rfl (opt_as (opt_build (by rfl) (by rfl) (by rfl) (by rfl)) (by rfl)) (by rfl) (by rfl) (by rfl) ?_
      refine wot_o rfl (by exact opt_index_lN (by rfl) (by rfl) (by rfl) (by rfl) (by rfl) (by omega)) (by rfl) (by rfl) (by rfl) ?_
      refine wot_o rfl (opt_fieldAddr_pt (by rfl) (by rfl) (by rfl) (mR_cs (by omega))) (by rfl) (by rfl) (by rfl) ?_
      refine wot_of0 rfl (opt_setT0 (by rfl) (by rfl) (by rfl) (by rfl) (by rfl) (by omega)) (EffOk.pure hX) (by rfl) (by rfl) ?_
      refine wot_nil ?_
      have h3 := (h2.lims (l := ((nb2 + 1 : Nat) : Int)) (by omega)).setT (k := nb2 - 1) (t := ⟨3, 0, zO, zO, zO, ((nb2 - 1 : Nat) : Int) + 1, 0⟩) (by omega) (.mk' (by exact okZ) (by exact okZ) (by exact okZ) (by dsimp only; omega) (by dsimp only; omega))
      generalize t2.setT (nb2 - 1) ⟨3, 0, zO, zO, zO, ((nb2 - 1 : Nat) : Int) + 1, 0⟩ = t3 at h3 ⊢
      have ln3 := h3.nb
      refine wct_region_seq (by simp) ?_
      refine wot_o rfl (opt_move (by rfl) (by rfl)) (by rfl) (by rfl) (by rfl) ?_
      refine wot_ci hTb rfl (call_bin (by rfl) (by rfl)) (im35z h3 (by omega) hL) (fun _ _ _ h => h.2) (EffOk.pure hX) (by rfl) (by rfl) (by rfl) ?_
      rintro r Th' ⟨⟨⟨v6, rfl, hv6⟩, rfl⟩, _⟩
      refine wot_o rfl (by exact opt_remNC (by rfl) (by rfl) (by rfl) (by rfl)) (by rfl) (by rfl) (by rfl) ?_
      refine wot_o rfl (opt_cmp (by rfl) (by rfl) (by rfl) (by rfl) (by rfl)) (by rfl) (by rfl) (by rfl) ?_
      refine wot_nil ?_
      refine wct_if (by rfl) (by rfl) (fun c4 => ?_) (fun c4 => ?_)
      · (skip)
        try simp only [Int.toNat_natCast] at c4
        have hpos := h3.mi.pos
        have ln4 : t3.adv.adv.adv.adv.adv.bs.length = nb2 := ln3
        refine wct_draw (by kernel_rfl) (u := [(4, 7), (4, 11), (4, 13), (4, 15)]) (by kernel_rfl) ?_
        refine wtt_o rfl (opt_move (by rfl) (by rfl)) (by rfl) (by rfl) (by rfl) ?_
        refine wtt_o rfl (by exact opt_nilCheck_pt (by rfl) (by rfl) (by rfl) (by rfl)) (by rfl) (by rfl) (by rfl) ?_
        refine wtt_o rfl (by exact opt_fieldAddr_pt (by rfl) (by rfl) (by rfl) (by rfl)) (by rfl) (by rfl) (by rfl) ?_
        refine wtt_o rfl (by exact opt_fieldAddr_pt (by rfl) (by rfl) (by rfl) (by rfl)) (by rfl) (by rfl) (by rfl) ?_
        refine wtt_o rfl (by exact opt_load_pt_1 (by rfl) (by rfl) (by rfl) (by rfl)) (by rfl) (by rfl) (by rfl) ?_
        refine wtt_o rfl (opt_move (by rfl) (by rfl)) (by rfl) (by rfl) (by rfl) ?_
        refine wtt_o rfl (opt_move (by rfl) (by rfl)) (by rfl) (by rfl) (by rfl) ?_
        refine wtt_ci hTb rfl (call_bin (by rfl) (by rfl)) (im35z h3.adv (by omega) hL) (fun _ _ _ h => h.2) (EffOk.pure hX) (by rfl) (by rfl) (by rfl) ?_
        rintro r Th' ⟨⟨⟨v7, rfl, hv7⟩, rfl⟩, _⟩
        refine wtt_o rfl (by exact opt_remNC (by rfl) (by rfl) (by rfl) (by rfl)) (by rfl) (by rfl) (by rfl) ?_
        refine wtt_o rfl (opt_add (by rfl) (by rfl) (by rfl) (by rfl) (by constructor <;> omega)) (by rfl) (by rfl) (by rfl) ?_
        refine wtt_o rfl (opt_move (by rfl) (by rfl)) (by rfl) (by rfl) (by rfl) ?_
        refine wtt_ci hTb rfl (call_bin (by rfl) (by rfl)) (im40z h3.adv.adv (by omega) hL) (fun _ _ _ h => h.2) (EffOk.pure hX) (by rfl) (by rfl) (by rfl) ?_
        rintro r Th' ⟨⟨⟨w, rfl, hw⟩, ⟨g1, rfl⟩⟩, _⟩
        refine wtt_o rfl (opt_move (by rfl) (by rfl)) (by rfl) (by rfl) (by rfl) ?_
        refine wtt_ci hTb rfl (call_bin (by rfl) (by rfl)) (im41 (by show t3.pos + 1 + 1 + 1 ≤ _; omega) hL) (fun _ _ _ h => h.2) (EffOk.pure hX) (by rfl) (by rfl) (by rfl) ?_
        rintro r Th' ⟨⟨⟨o1, rfl, ho1⟩, g2, rfl⟩, _⟩
        refine wtt_o rfl (opt_move (by rfl) (by rfl)) (by rfl) (by rfl) (by rfl) ?_
        refine wtt_ci hTb rfl (call_bin (by rfl) (by rfl)) (im41 (by show t3.pos + 1 + 1 + 1 + 1 ≤ _; omega) hL) (fun _ _ _ h => h.2) (EffOk.pure hX) (by rfl) (by rfl) (by rfl) ?_
        rintro r Th' ⟨⟨⟨o2, rfl, ho2⟩, g3, rfl⟩, _⟩
        refine wtt_o rfl (opt_move (by rfl) (by rfl)) (by rfl) (by rfl) (by rfl) ?_
        refine wtt_o rfl (opt_add (by rfl) (by rfl) (by rfl) (by rfl) (by constructor <;> omega)) (by rfl) (by rfl) (by rfl) ?_
        refine wtt_o rfl (opt_build (by rfl) (by rfl) (by rfl) (by rfl)) (by rfl) (by rfl) (by rfl) ?_
        refine wtt_o (x := Enc.tv (⟨4, 1 + ((v7 % 6 : Nat) : Int), rO w, o1, o2, ((nb2 - 1 : Nat) : Int) + 1, 0⟩ : Term)) rfl (opt_as (opt_build (by rfl) (by rfl) (by rfl) (by rfl)) (by rfl)) (by rfl) (by rfl) (by rfl) ?_
        refine wtt_o rfl (opt_index_lN (by rfl) (by rfl) (by rfl) (by rfl) (by rfl) (by show _ < t3.bs.length; omega)) (by rfl) (by rfl) (by rfl) ?_
        refine wtt_o rfl (opt_fieldAddr_pt (by rfl) (by rfl) (by rfl) (mR_cs (by show 0 < t3.bs.length; omega))) (by rfl) (by rfl) (by rfl) ?_
        refine wtt_of0 rfl (opt_setT (by rfl) (by rfl) (by rfl) (by rfl) (by rfl) (by show _ < t3.bs.length; omega)) (EffOk.pure hX) (by rfl) (by rfl) ?_
        refine wtt_nil ?_
        refine ⟨⟨(by exact chk_pt (t := 32) (by rfl) (by rfl) (by rfl) (by rfl) (by rfl) (by rfl) (by rfl) (by rfl) (by rfl)), (by exact chk_pt (t := 32) (by rfl) (by rfl) (by rfl) (by rfl) (by rfl) (by rfl) (by rfl) (by rfl) (by rfl)), (by exact chk_pt (t := 32) (by rfl) (by rfl) (by rfl) (by rfl) (by rfl) (by rfl) (by rfl) (by rfl) (by rfl)), (by exact chk_pt (t := 32) (by rfl) (by rfl) (by rfl) (by rfl) (by rfl) (by rfl) (by rfl) (by rfl) (by rfl)), trivial⟩, ?_⟩
        (refine qbt_normal ?_; refine qst_wct ?_)
        have h4 := (h3.adv.adv.adv.adv.adv.setT (k := nb2 - 1) (t := ⟨4, 1 + ((v7 % 6 : Nat) : Int), rO w, o1, o2, ((nb2 - 1 : Nat) : Int) + 1, 0⟩) (by omega) (.mk' (by exact okR (by assumption) (by omega)) (by exact OOk.mono (r := 6) (by omega) (by assumption)) (by exact OOk.mono (r := 6) (by omega) (by assumption)) (by dsimp only; omega) (by dsimp only; omega))).le (B := 100 + 1000 * (2 - i) + 710) (by omega)
        generalize t3.adv.adv.adv.adv.adv.setT (nb2 - 1) ⟨4, 1 + ((v7 % 6 : Nat) : Int), rO w, o1, o2, ((nb2 - 1 : Nat) : Int) + 1, 0⟩ = t4 at h4 ⊢
        refine wct_ghost (g_pop (F := [(2, .pt 0 0 0), (3, .pt 1 0 0), (5, ti (i : Int))]) (Th1 := mR Z0 L t4) (gar := _) (by rfl) (by rw [hX]; exact Nat.zero_le _) (by exact ⟨rfl, rfl, rfl, trivial⟩) (by exact ⟨Lo.pt (by rfl), Lo.pt (by rfl), Lo.cl (Cl.v _), trivial⟩) lo_mR) ?_
        refine wct_region (by simp) ?_
        refine wot_o rfl (opt_move (by rfl) (by rfl)) (by rfl) (by rfl) (by rfl) ?_
        refine wot_o rfl (opt_subN (by rfl) (by rfl) (by rfl) (by rfl) (by omega) (by omega)) (by rfl) (by rfl) (by rfl) ?_
        refine wot_o rfl (opt_assign (by rfl) (by rfl)) (by rfl) (by rfl) (by rfl) ?_
        refine wot_nil ?_
        (refine qst_loop ?_)
        refine rnd (i - 1, nb2, nl2, t4) (by (try simp only); omega) ?_ (by exact ⟨rfl, rfl, rfl, trivial⟩) (by rfl)
        try dsimp only
        exact ⟨by omega, by omega, h4.le (by omega)⟩
      · (refine wct_skip ?_; refine qbt_normal ?_; refine qst_wct ?_)
        try simp only [Int.toNat_natCast] at c4
        have h4 := h3.adv.le (B := 100 + 1000 * (2 - i) + 710) (by omega)
        generalize t3.adv = t4 at h4 ⊢
        refine wct_ghost (g_pop (F := [(2, .pt 0 0 0), (3, .pt 1 0 0), (5, ti (i : Int))]) (Th1 := mR Z0 L t4) (gar := _) (by exact (List.append_nil _).symm) (by rw [hX]; exact Nat.zero_le _) (by exact ⟨rfl, rfl, rfl, trivial⟩) (by exact ⟨Lo.pt (by rfl), Lo.pt (by rfl), Lo.cl (Cl.v _), trivial⟩) lo_mR) ?_
        refine wct_region (by simp) ?_
        refine wot_o rfl (opt_move (by rfl) (by rfl)) (by rfl) (by rfl) (by rfl) ?_
        refine wot_o rfl (opt_subN (by rfl) (by rfl) (by rfl) (by rfl) (by omega) (by omega)) (by rfl) (by rfl) (by rfl) ?_
        refine wot_o rfl (opt_assign (by rfl) (by rfl)) (by rfl) (by rfl) (by rfl) ?_
        refine wot_nil ?_
        (refine qst_loop ?_)
        refine rnd (i - 1, nb2, nl2, t4) (by (try simp only); omega) ?_ (by exact ⟨rfl, rfl, rfl, trivial⟩) (by rfl)
        try dsimp only
        exact ⟨by omega, by omega, h4.le (by omega)⟩
    · (refine wct_exit_seq ?_; refine qst_exit ?_; refine qbt_same ?_; refine qst_wct ?_)
      try simp only [Int.toNat_natCast] at c2
      refine wct_region_seq (by simp) ?_
      refine wot_o rfl (opt_move (by rfl) (by rfl)) (by rfl) (by rfl) (by rfl) ?_
      refine wot_o rfl (opt_move (by rfl) (by rfl)) (by rfl) (by rfl) (by rfl) ?_
      refine wot_ci hTb rfl (call_bin (by rfl) (by rfl)) (im35z ht (by omega) hL) (fun _ _ _ h => h.2) (EffOk.pure hX) (by rfl) (by rfl) (by rfl) ?_
      rintro r Th' ⟨⟨⟨v4, rfl, hv4⟩, rfl⟩, _⟩
      refine wot_o rfl (by exact opt_remNC (by rfl) (by rfl) (by rfl) (by rfl)) (by rfl) (by rfl) (by rfl) ?_
      refine wot_ci hTb rfl (call_bin (by rfl) (by rfl)) (im37 ht.adv (by omega) hL (by omega)) (fun _ _ _ h => h.2) (EffOk.pure hX) (by rfl) (by rfl) (by rfl) ?_
      rintro r Th' ⟨⟨q, rfl, hq⟩, _⟩
      refine wot_nil ?_
      (refine wct_assoc ?_)
      refine wct_region_seq (by simp) ?_
      refine wot_o rfl (opt_move (by rfl) (by rfl)) (by rfl) (by rfl) (by rfl) ?_
      refine wot_ci hTb rfl (call_bin (by rfl) (by rfl)) (im35z hq (by omega) hL) (fun _ _ _ h => h.2) (EffOk.pure hX) (by rfl) (by rfl) (by rfl) ?_
      rintro r Th' ⟨⟨⟨v5, rfl, hv5⟩, rfl⟩, _⟩
      refine wot_o rfl (by exact opt_remNC (by rfl) (by rfl) (by rfl) (by rfl)) (by rfl) (by rfl) (by rfl) ?_
      refine wot_o rfl (opt_cmp (by rfl) (by rfl) (by rfl) (by rfl) (by rfl)) (by rfl) (by rfl) (by rfl) ?_
      refine wot_nil ?_
      refine wct_cut3 (fun (nb2 : Nat) (nl2 : Nat) (t2 : MS) => St t2 5000 ((nb2 : Nat) : Int) nb2 nl2 (6 + 2 * (nl2 : Int)) ∧ nl2 ≤ 3 ∧ 0 < nb2) (fun (nb2 : Nat) (nl2 : Nat) (t2 : MS) => [(2, .pt 0 0 0), (3, .pt 1 0 0)]) (fun (nb2 : Nat) (nl2 : Nat) (t2 : MS) => mR Z0 L t2) ?_ ?_
      · (skip)
        refine wct_if (by rfl) (by rfl) (fun c5 => ?_) (fun c5 => ?_)
        · (skip)
          try simp only [Int.toNat_natCast] at c5
          refine wct_region_seq (by simp) ?_
          refine wot_o rfl (opt_move (by rfl) (by rfl)) (by rfl) (by rfl) (by rfl) ?_
          refine wot_ci hTb rfl (call_bin (by rfl) (by rfl)) (im38 hq.adv rfl (by omega) hL (by omega) (by omega)) (fun _ _ _ h => h.2) (EffOk.pure hX) (by rfl) (by rfl) (by rfl) ?_
          rintro r Th' ⟨⟨q2, ⟨gar, rfl⟩, hq2⟩, _⟩
          refine wot_nil ?_
          refine wct_ghost (g_pop (F := [(2, .pt 0 0 0), (3, .pt 1 0 0)]) (Th1 := mR Z0 L q2) (gar := _) rfl (by rw [hX]; exact Nat.zero_le _) (by exact ⟨rfl, rfl, trivial⟩) (by exact ⟨Lo.pt (by rfl), Lo.pt (by rfl), trivial⟩) lo_mR) ?_
          refine wct_region_seq (by simp) ?_
          refine wot_o rfl (opt_move (by rfl) (by rfl)) (by rfl) (by rfl) (by rfl) ?_
          refine wot_ci hTb rfl (call_bin (by rfl) (by rfl)) (im39z hq2 (by omega)) (fun _ _ _ h => h.2) (EffOk.pure hX) (by rfl) (by rfl) (by rfl) ?_
          rintro r Th' ⟨⟨rfl, rfl⟩, _⟩
          refine wot_nil ?_
          have e := hq2.addB (by omega)
          have e1 : ((nb + v4 % 3 + 1 : Nat) : Int) + 3 = ((nb + v4 % 3 + 1 + 3 : Nat) : Int) := by omega
          have e2 : 6 + 2 * (nl : Int) + 2 = 6 + 2 * ((nl + 1 : Nat) : Int) := by omega
          rw [e1, e2] at e
          refine wct_region (by simp) ?_
          refine wot_o rfl (opt_move (by rfl) (by rfl)) (by rfl) (by rfl) (by rfl) ?_
          refine wot_ci hTb rfl (call_bin (by rfl) (by rfl)) (im42z e (by omega) hL (by omega)) (fun _ _ _ h => h.2) (EffOk.pure hX) (by rfl) (by rfl) (by rfl) ?_
          rintro r Th' ⟨⟨q3, rfl, hq3⟩, _⟩
          refine wot_nil ?_
          (refine qst_cut ?_)
          refine cutmk (nb + v4 % 3 + 1 + 3, nl + 1, q3) ?_ (by exact ⟨rfl, rfl, trivial⟩) (by rfl)
          try dsimp only
          exact ⟨(e.stp hq3).le (by omega), by omega, by omega⟩
        · (refine wct_skip ?_; refine qst_cut ?_)
          try simp only [Int.toNat_natCast] at c5
          refine cutmk (nb + v4 % 3 + 1, nl, q.adv) ?_ (by exact ⟨rfl, rfl, trivial⟩) (by rfl)
          try dsimp only
          exact ⟨hq.adv.le (by omega), by omega, by omega⟩
      rintro nb2 nl2 t2 ⟨h2, hnl2, hnb2⟩
      have ln2 := h2.nb
      have bl2 := h2.mi.bl
      refine wct_draw_seq (by kernel_rfl) (u := []) (by kernel_rfl) ?_
      refine wtt_o rfl (opt_move (by rfl) (by rfl)) (by rfl) (by rfl) (by rfl) ?_
      refine wtt_o rfl (by exact opt_nilCheck_pt (by rfl) (by rfl) (by rfl) (by rfl)) (by rfl) (by rfl) (by rfl) ?_
      refine wtt_o rfl (by exact opt_fieldAddr_pt (by rfl) (by rfl) (by rfl) (by rfl)) (by rfl) (by rfl) (by rfl) ?_
      refine wtt_o rfl (by exact opt_fieldAddr_pt (by rfl) (by rfl) (by rfl) (by rfl)) (by rfl) (by rfl) (by rfl) ?_
      refine wtt_o rfl (by exact opt_load_pt_1 (by rfl) (by rfl) (by rfl) (by rfl)) (by rfl) (by rfl) (by rfl) ?_
      refine wtt_o rfl (opt_move (by rfl) (by rfl)) (by rfl) (by rfl) (by rfl) ?_
      refine wtt_o rfl (by exact opt_nilCheck_pt (by rfl) (by rfl) (by rfl) (by rfl)) (by rfl) (by rfl) (by rfl) ?_
      refine wtt_o rfl (by exact opt_fieldAddr_pt (by rfl) (by rfl) (by rfl) (by rfl)) (by rfl) (by rfl) (by rfl) ?_
      refine wtt_o rfl (by exact opt_fieldAddr_pt (by rfl) (by rfl) (by rfl) (by rfl)) (by rfl) (by rfl) (by rfl) ?_
      refine wtt_o rfl (by exact opt_load_pt_1 (by rfl) (by rfl) (by rfl) (by rfl)) (by rfl) (by rfl) (by rfl) ?_
      refine wtt_o rfl (by exact opt_len_own (by rfl) (by rfl) (by rfl) (by rfl)) (by rfl) (by rfl) (by rfl) ?_
      refine wtt_o rfl (opt_subN (by rfl) (by rfl) (by rfl) (by rfl) (by omega) (by omega)) (by rfl) (by rfl) (by rfl) ?_
      refine wtt_o (x := Enc.tv (⟨5, 0, zO, zO, zO, 0, 0⟩ : Term)) rfl (opt_as (opt_build (by rfl) (by rfl) (by rfl) (by rfl)) (by rfl)) (by rfl) (by rfl) (by rfl) ?_
      refine wtt_o rfl (by exact opt_index_lN (by rfl) (by rfl) (by rfl) (by rfl) (by rfl) (by omega)) (by rfl) (by rfl) (by rfl) ?_
      refine wtt_o rfl (opt_fieldAddr_pt (by rfl) (by rfl) (by rfl) (mR_cs (by omega))) (by rfl) (by rfl) (by rfl) ?_
      refine wtt_of0 rfl (opt_setT0 (by rfl) (by rfl) (by rfl) (by rfl) (by rfl) (by omega)) (EffOk.pure hX) (by rfl) (by rfl) ?_
      refine wtt_nil ?_
      refine ⟨trivial, ?_⟩
      have h3 := h2.setT (k := t2.bs.length - 1) (t := ⟨5, 0, zO, zO, zO, 0, 0⟩) (by omega) (.mk' (by exact okZ) (by exact okZ) (by exact okZ) (by dsimp only; omega) (by dsimp only; omega))
      generalize t2.setT (t2.bs.length - 1) ⟨5, 0, zO, zO, zO, 0, 0⟩ = t3 at h3 ⊢
      refine wct_region_seq (by simp) ?_
      refine wot_o rfl (opt_move (by rfl) (by rfl)) (by rfl) (by rfl) (by rfl) ?_
      refine wot_o rfl (by exact opt_nilCheck_pt (by rfl) (by rfl) (by rfl) (by rfl)) (by rfl) (by rfl) (by rfl) ?_
      refine wot_o rfl (by exact opt_fieldAddr_pt (by rfl) (by rfl) (by rfl) (by rfl)) (by rfl) (by rfl) (by rfl) ?_
      refine wot_o rfl (by exact opt_load_pt_a (by rfl) (by rfl) (by rfl) (by rfl) (by rfl)) (by rfl) (by rfl) (by rfl) ?_
      refine wot_of0 rfl (by exact opt_store_row (by rfl) (by rfl) (by rfl) (by rfl) (by rfl) (by trivial) (by rfl) (by rfl) (by rfl)) (EffOk.pure hX) (by rfl) (by rfl) ?_
      refine wot_nil ?_
      (refine wct_ret ?_)
      refine finp_cell (r := Enc.tv t3.code) (by simp) rfl (by rfl) (by rfl) (by rfl) (by rfl) (h3.dr (by decide)) ⟨t3.code, rfl, h3.fit (by omega) (by decide) (by omega), by show t3.regs ≤ 200; have := h3.rg; omega⟩
theorem pu11 {L : List U8} (hL : LOk L) : Pu Tryd.prog 11 [.agg [lst false L]] (fun r => ∃ c, r = Enc.tv c ∧ Fit c) := (pu11s hL).mono fun r ⟨c, h1, h2, _⟩ => ⟨c, h1, h2⟩
end Go.Ab
