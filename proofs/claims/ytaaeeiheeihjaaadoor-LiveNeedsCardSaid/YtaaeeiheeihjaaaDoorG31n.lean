/- The road to a card of this seat: G31. Each theorem holds for every input that its own premises speak of. -/
import Derived.Test.YtaaeeiheeihjaaaDoorT14n
import Derived.Test.YtaaeeiheeihjaaaDoorG5
import Derived.Test.YtaaeeiheeihjaaaDoorBLiveNeeds
set_option linter.all false
namespace Go.Ab
open Go.Proofs
set_option maxRecDepth 100000 in
theorem convU8n {n : Nat} (h : n < 2 ^ 63) : pureV Tryd.prog (convert 5 3 (.int .u8 (n : Int))) = some (.int .i64 (n : Int)) := (show pureV Tryd.prog (convert 5 3 (.int .u8 (n : Int))) = some (.int .i64 (IntKind.i64.wrap n)) by rfl).trans (by rw [wrap64n h])
theorem pu15a {c : Code} {x : Live} {kd bl rg : Nat} (hf : Fit c) (hli : x.in_.length = c.b.length) (hlo : x.out.length = c.b.length) (hl : ∀ l ∈ x.in_, l.length ≤ 2 ^ 20) (hkd : kd % 2 = 0) (hkb : kd < 256) (hbl : bl < 256) (hrg : rg < 256) : Pu Tryd.prog 15 [Enc.tv c, Enc.tv x, .agg [.v (.int .u8 (kd : Int)), .v (.int .u8 (bl : Int)), .v (.int .u8 (rg : Int))]] (Eq (Enc.tv (⟨x.in_.set (bl % c.b.length) (chgL (at' x.in_ (bl % c.b.length)) (((rg % (c.regs + 2).toNat : Nat) : Int) - 1)), x.out⟩ : Live))) := by
  have hnb := hf.nb
  have hrr := hf.rg
  have hK := Nat.mod_lt bl hnb.1
  have hR := Nat.mod_lt rg (show 0 < (c.regs + 2).toNat by omega)
  have hR2 : (c.regs + 2).toNat ≤ 258 := by omega
  refine pu_fn fn15 (by rfl) (by rfl) (by rfl) fun X hX hTb => ?_
  refine wct_region_seq (by simp) ?_
  refine wot_o rfl (opt_box_fz (by rfl) (by rfl) (by trivial)) (by rfl) (by rfl) (by rfl) ?_
  refine wot_o rfl (opt_box_fz (by rfl) (by rfl) (by trivial)) (by rfl) (by rfl) (by rfl) ?_
  refine wot_o rfl (opt_box_fz (by rfl) (by rfl) (by trivial)) (by rfl) (by rfl) (by rfl) ?_
  refine wot_o rfl (opt_alloc (by rfl)) (by rfl) (by rfl) (by rfl) ?_
  refine wot_nil ?_
  (refine wct_assoc ?_)
  refine wct_region_seq (by simp) ?_
  refine wot_o rfl (by exact opt_fieldAddr_fp (by rfl) (by rfl)) (by rfl) (by rfl) (by rfl) ?_
  refine wot_o rfl (by exact opt_load_fp_1 (by rfl) (by rfl) (by rfl)) (by rfl) (by rfl) (by rfl) ?_
  refine wot_o rfl (by exact opt_len_fz (by rfl) (by rfl) (by rfl)) (by rfl) (by rfl) (by rfl) ?_
  refine wot_o rfl (by exact opt_fieldAddr_fp (by rfl) (by rfl)) (by rfl) (by rfl) (by rfl) ?_
  refine wot_o rfl (by exact opt_load_fp_1 (by rfl) (by rfl) (by rfl)) (by rfl) (by rfl) (by rfl) ?_
  refine wot_o rfl (by exact opt_len_fz (by rfl) (by rfl) (by rfl)) (by rfl) (by rfl) (by rfl) ?_
  refine wot_o rfl (opt_cmp (by rfl) (by rfl) (by rfl) (by rfl) (by rfl)) (by rfl) (by rfl) (by rfl) ?_
  refine wot_o rfl (opt_move (by rfl) (by rfl)) (by rfl) (by rfl) (by rfl) ?_
  refine wot_split (d := 21) (by rfl) (fun g8 => ?_) (fun g8 => ?_)
  · refine wot_sg (by rfl) (by rfl) (by rfl) (by rfl) (by rfl) (by rfl) ?_
    refine wot_sg (by rfl) (by rfl) (by rfl) (by rfl) (by rfl) (by rfl) ?_
    refine wot_sg (by rfl) (by rfl) (by rfl) (by rfl) (by rfl) (by rfl) ?_
    refine wot_sg (by rfl) (by rfl) (by rfl) (by rfl) (by rfl) (by rfl) ?_
    refine wot_sg (by rfl) (by rfl) (by rfl) (by rfl) (by rfl) (by rfl) ?_
    refine wot_sg (by rfl) (by rfl) (by rfl) (by rfl) (by rfl) (by rfl) ?_
    refine wot_sg (by rfl) (by rfl) (by rfl) (by rfl) (by rfl) (by rfl) ?_
    refine wot_o rfl (by exact opt_pick_t (by rfl) (by rfl) (by rfl) (by rfl) (by rfl) (by rfl) (by rfl)) (by rfl) (by rfl) (by rfl) ?_
    refine wot_nil ?_
    refine wct_tt_seq (by rfl) (by rfl) ?_
    (refine wct_assoc ?_)
    refine wct_region_seq (by simp) ?_
    refine wot_o rfl (by exact opt_load_fp_row (by rfl) (by rfl) (by rfl)) (by rfl) (by rfl) (by rfl) ?_
    refine wot_of0 rfl (by exact opt_store_row (by rfl) (by rfl) (by rfl) (by rfl) (by rfl) (by trivial) (by rfl) (by rfl) (by rfl)) (EffOk.pure hX) (by rfl) (by rfl) ?_
    refine wot_nil ?_
    (refine wct_ret_seq ?_)
    exfalso; omega
  · refine wot_og rfl (by exact opt_fieldAddr_fp (by rfl) (by rfl)) (by rfl) (by rfl) (by rfl) (by rfl) (by rfl) (by rfl) ?_
    refine wot_og rfl (by exact opt_load_fp_1 (by rfl) (by rfl) (by rfl)) (by rfl) (by rfl) (by rfl) (by rfl) (by rfl) (by rfl) ?_
    refine wot_og rfl (by exact opt_len_fz (by rfl) (by rfl) (by rfl)) (by rfl) (by rfl) (by rfl) (by rfl) (by rfl) (by rfl) ?_
    refine wot_og rfl (by exact opt_fieldAddr_fp (by rfl) (by rfl)) (by rfl) (by rfl) (by rfl) (by rfl) (by rfl) (by rfl) ?_
    refine wot_og rfl (by exact opt_load_fp_1 (by rfl) (by rfl) (by rfl)) (by rfl) (by rfl) (by rfl) (by rfl) (by rfl) (by rfl) ?_
    refine wot_og rfl (by exact opt_len_fz (by rfl) (by rfl) (by rfl)) (by rfl) (by rfl) (by rfl) (by rfl) (by rfl) (by rfl) ?_
    refine wot_og rfl (opt_cmp (by rfl) (by rfl) (by rfl) (by rfl) (by rfl)) (by rfl) (by rfl) (by rfl) (by rfl) (by rfl) (by rfl) ?_
    refine wot_o rfl (by exact opt_pick_f (by rfl) (by rfl) (by rfl) (by rfl) (by rfl) (by rfl) (by rfl)) (by rfl) (by rfl) (by rfl) ?_
    refine wot_nil ?_
    refine wct_if_seq (by rfl) (by rfl) (fun c1 => ?_) (fun c1 => ?_)
    · (refine wct_assoc ?_)
      try simp only [Int.toNat_natCast] at c1
      refine wct_region_seq (by simp) ?_
      refine wot_o rfl (by exact opt_load_fp_row (by rfl) (by rfl) (by rfl)) (by rfl) (by rfl) (by rfl) ?_
      refine wot_of0 rfl (by exact opt_store_row (by rfl) (by rfl) (by rfl) (by rfl) (by rfl) (by trivial) (by rfl) (by rfl) (by rfl)) (EffOk.pure hX) (by rfl) (by rfl) ?_
      refine wot_nil ?_
      (refine wct_ret_seq ?_)
      exfalso; omega
    · (refine wct_skip_seq ?_)
      try simp only [Int.toNat_natCast] at c1
      refine wct_draw_seq (by kernel_rfl) (u := []) (by kernel_rfl) ?_
      refine wtt_o rfl (by exact opt_fieldAddr_fp (by rfl) (by rfl)) (by rfl) (by rfl) (by rfl) ?_
      refine wtt_o rfl (by exact opt_load_fp_1 (by rfl) (by rfl) (by rfl)) (by rfl) (by rfl) (by rfl) ?_
      refine wtt_o rfl (opt_conv (by rfl) (by rfl) (convU8n (by omega)) (by rfl) (by rfl)) (by rfl) (by rfl) (by rfl) ?_
      refine wtt_o rfl (by exact opt_fieldAddr_fp (by rfl) (by rfl)) (by rfl) (by rfl) (by rfl) ?_
      refine wtt_o rfl (by exact opt_load_fp_1 (by rfl) (by rfl) (by rfl)) (by rfl) (by rfl) (by rfl) ?_
      refine wtt_o rfl (by exact opt_len_fz (by rfl) (by rfl) (by rfl)) (by rfl) (by rfl) (by rfl) ?_
      refine wtt_o rfl (by exact opt_remNN (by rfl) (by rfl) (by rfl) (by rfl) (by omega)) (by rfl) (by rfl) (by rfl) ?_
      refine wtt_o rfl (by exact opt_fieldAddr_fp (by rfl) (by rfl)) (by rfl) (by rfl) (by rfl) ?_
      refine wtt_o rfl (by exact opt_load_fp_1 (by rfl) (by rfl) (by rfl)) (by rfl) (by rfl) (by rfl) ?_
      refine wtt_o rfl (opt_conv (by rfl) (by rfl) (convU8n (by omega)) (by rfl) (by rfl)) (by rfl) (by rfl) (by rfl) ?_
      refine wtt_o rfl (by exact opt_fieldAddr_fp (by rfl) (by rfl)) (by rfl) (by rfl) (by rfl) ?_
      refine wtt_o rfl (by exact opt_load_fp_1 (by rfl) (by rfl) (by rfl)) (by rfl) (by rfl) (by rfl) ?_
      refine wtt_o rfl (opt_add (by rfl) (by rfl) (by rfl) (by rfl) (by constructor <;> omega)) (by rfl) (by rfl) (by rfl) ?_
      refine wtt_o rfl (opt_remNB (b := (c.regs + 2).toNat) (by rfl) (by rfl) (by rfl) (by rfl) (by omega) (by omega)) (by rfl) (by rfl) (by rfl) ?_
      refine wtt_o rfl (opt_sub (by rfl) (by rfl) (by rfl) (by rfl) (by constructor <;> omega)) (by rfl) (by rfl) (by rfl) ?_
      refine wtt_o rfl (opt_assign (by rfl) (by rfl)) (by rfl) (by rfl) (by rfl) ?_
      refine wtt_o rfl (opt_assign (by rfl) (by rfl)) (by rfl) (by rfl) (by rfl) ?_
      refine wtt_nil ?_
      refine ⟨trivial, ?_⟩
      refine wct_draw_seq (by kernel_rfl) (u := [(6, 3)]) (by kernel_rfl) ?_
      refine wtt_o rfl (opt_litO_l (([] : List (List Int))) (by rfl) (by rfl) (by rfl) (by rfl) (by rfl) (by rfl) (by rfl) (by rfl) (by rfl) (by rfl)) (by rfl) (by rfl) (by rfl) ?_
      refine wtt_o rfl (by exact opt_fieldAddr_fp (by rfl) (by rfl)) (by rfl) (by rfl) (by rfl) ?_
      refine wtt_o rfl (by exact opt_load_fp_1 (by rfl) (by rfl) (by rfl)) (by rfl) (by rfl) (by rfl) ?_
      refine wtt_of rfl (by exact opt_append_l (by rfl) (by rfl) (by rfl) (by rfl) src_lst (by rfl) (by rfl) (by rfl) (by (simp only [List.length_append, List.length_cons, List.length_nil, List.length_take, List.length_drop]; omega)) (by rfl)) (EffOk.pure hX) (by rfl) (by rfl) (by rfl) ?_
      refine wtt_o rfl (opt_litO_l (([] : List (List Int))) (by rfl) (by rfl) (by rfl) (by rfl) (by rfl) (by rfl) (by rfl) (by rfl) (by rfl) (by rfl)) (by rfl) (by rfl) (by rfl) ?_
      refine wtt_o rfl (by exact opt_fieldAddr_fp (by rfl) (by rfl)) (by rfl) (by rfl) (by rfl) ?_
      refine wtt_o rfl (by exact opt_load_fp_1 (by rfl) (by rfl) (by rfl)) (by rfl) (by rfl) (by rfl) ?_
      refine wtt_of rfl (by exact opt_append_l (by rfl) (by rfl) (by rfl) (by rfl) src_lst (by rfl) (by rfl) (by rfl) (by (simp only [List.length_append, List.length_cons, List.length_nil, List.length_take, List.length_drop]; omega)) (by rfl)) (EffOk.pure hX) (by rfl) (by rfl) (by rfl) ?_
      refine wtt_o rfl (opt_assign (by rfl) (by rfl)) (by rfl) (by rfl) (by rfl) ?_
      refine wtt_o rfl (opt_assign (by rfl) (by rfl)) (by rfl) (by rfl) (by rfl) ?_
      refine wtt_nil ?_
      refine ⟨⟨(by exact ChkT.fp (by rfl) (by rfl) (by rfl) (by rfl) (by rfl)), trivial⟩, ?_⟩
      refine wct_region_seq (by simp) ?_
      refine wot_o rfl (opt_move (by rfl) (by rfl)) (by rfl) (by rfl) (by rfl) ?_
      refine wot_o rfl (opt_assign (by rfl) (by rfl)) (by rfl) (by rfl) (by rfl) ?_
      refine wot_nil ?_
      (refine wct_assoc ?_)
      refine wct_region_seq (by simp) ?_
      refine wot_o rfl (by exact opt_fieldAddr_fp (by rfl) (by rfl)) (by rfl) (by rfl) (by rfl) ?_
      refine wot_o rfl (by exact opt_load_fp_1 (by rfl) (by rfl) (by rfl)) (by rfl) (by rfl) (by rfl) ?_
      refine wot_o rfl (opt_remU8 (by rfl) (by rfl) (by rfl) (by rfl)) (by rfl) (by rfl) (by rfl) ?_
      refine wot_o rfl (opt_cmp (by rfl) (by rfl) (by rfl) (by rfl) (by rfl)) (by rfl) (by rfl) (by rfl) ?_
      refine wot_nil ?_
      refine wct_if_seq (by rfl) (by rfl) (fun c2 => ?_) (fun c2 => ?_)
      · (skip)
        try simp only [Int.toNat_natCast] at c2
        exfalso; omega
      · (refine wct_skip_seq ?_)
        try simp only [Int.toNat_natCast] at c2
        obtain ⟨K, hKe⟩ : ∃ K, K = bl % c.b.length := ⟨_, rfl⟩
        obtain ⟨N, hNe⟩ : ∃ N : Int, N = ((rg % (c.regs + 2).toNat : Nat) : Int) - 1 := ⟨_, rfl⟩
        rw [← hKe, ← hNe]
        rw [← hKe] at hK
        obtain ⟨L, hLe⟩ : ∃ L, L = at' x.in_ K := ⟨_, rfl⟩
        rw [← hLe]
        have hkl : K < x.in_.length := by omega
        have hL20 : L.length ≤ 2 ^ 20 := by rw [hLe]; exact hl _ (at_mem' hkl)
        refine wct_ghost (E' := [(3, .fp false (cls c) 0), (4, .fp false (cls x) 0), (5, .fp false [.v (.int .u8 (kd : Int)), .v (.int .u8 (bl : Int)), .v (.int .u8 (rg : Int))] 0), (6, .pt 0 0 0), (7, ti ((K : Nat) : Int)), (8, ti N), (9, .own 1 1 1 0 x.in_.length x.in_.length), (10, .own 2 1 1 0 x.out.length x.out.length), (11, .own 1 1 1 0 x.in_.length x.in_.length)]) (Th' := [⟨0, some (38, [.v (.slice none 0 0), .v (.slice none 0 0)])⟩, rl 1 47 x.in_, rl 1 47 x.out]) (fun T G p h => ⟨p, Rl.sub (F := [(3, .fp false (cls c) 0), (4, .fp false (cls x) 0), (5, .fp false [.v (.int .u8 (kd : Int)), .v (.int .u8 (bl : Int)), .v (.int .u8 (rg : Int))] 0), (6, .pt 0 0 0), (7, ti ((K : Nat) : Int)), (8, ti N), (9, .own 1 1 1 0 x.in_.length x.in_.length), (10, .own 2 1 1 0 x.out.length x.out.length), (11, .own 1 1 1 0 x.in_.length x.in_.length)]) (show Rl X _ ([⟨0, some (38, [.v (.slice none 0 0), .v (.slice none 0 0)])⟩, rl 1 47 x.in_, rl 1 47 x.out]) T G p from h) (by exact ⟨rfl, rfl, rfl, rfl, rfl, rfl, rfl, rfl, rfl, trivial⟩)⟩) ?_
        refine wct_region_seq (by simp) ?_
        refine wot_o rfl (opt_move (by rfl) (by rfl)) (by rfl) (by rfl) (by rfl) ?_
        refine wot_o rfl (opt_move (by rfl) (by rfl)) (by rfl) (by rfl) (by rfl) ?_
        refine wot_o rfl (by exact opt_index_lN (by rfl) (by rfl) (by rfl) (by rfl) (by rfl) (by omega)) (by rfl) (by rfl) (by rfl) ?_
        refine wot_o rfl (opt_load_l1 (by rfl) (by rfl) (by rfl) hkl (by rw [← hLe]; rfl) (by rfl)) (by rfl) (by rfl) (by rfl) ?_
        refine wot_o rfl (opt_assign (by rfl) (by rfl)) (by rfl) (by rfl) (by rfl) ?_
        refine wot_nil ?_
        refine wct_region_seq (by simp) ?_
        refine wot_o rfl (opt_move (by rfl) (by rfl)) (by rfl) (by rfl) (by rfl) ?_
        refine wot_o rfl (opt_move (by rfl) (by rfl)) (by rfl) (by rfl) (by rfl) ?_
        refine wot_o rfl (opt_litO_l (([] : List Int)) (by rfl) (by rfl) (by rfl) (by rfl) (by rfl) (by rfl) (by rfl) (by rfl) (by rfl) (by rfl)) (by rfl) (by rfl) (by rfl) ?_
        refine wot_o rfl (by exact opt_index_lN (by rfl) (by rfl) (by rfl) (by rfl) (by rfl) (by omega)) (by rfl) (by rfl) (by rfl) ?_
        refine wot_of0 rfl (opt_store_h0 (by rfl) (by rfl) (by rfl) (by rfl) (by rfl) (by trivial) (by rfl) (by rfl) hkl) (EffOk.pure hX) (by rfl) (by rfl) ?_
        refine wot_nil ?_
        (refine wct_assoc ?_)
        refine wct_region_seq (by simp) ?_
        refine wot_o rfl (opt_assign_c (by rfl)) (by rfl) (by rfl) (by rfl) ?_
        refine wot_nil ?_
        refine wct_loop2 (fun (g : Nat) (i : Nat) => i ≤ L.length) (fun (g : Nat) (i : Nat) => [(3, .fp false (cls c) 0), (4, .fp false (cls x) 0), (5, .fp false [.v (.int .u8 (kd : Int)), .v (.int .u8 (bl : Int)), .v (.int .u8 (rg : Int))] 0), (6, .pt 0 0 0), (7, ti ((K : Nat) : Int)), (8, ti N), (9, .own 1 1 1 0 x.in_.length x.in_.length), (10, .own 2 1 1 0 x.out.length x.out.length), (11, .own 1 1 1 0 x.in_.length x.in_.length), (12, lst false L), (13, ti (i : Int))]) (fun (g : Nat) (i : Nat) => [⟨0, some (38, [.v (.slice none 0 0), .v (.slice none 0 0)])⟩, ⟨1, some (47, hC x.in_ K (ownl 3 g (woI (L.take i) N)))⟩, rl 1 47 x.out, rl g 3 (woI (L.take i) N)]) (fun (g : Nat) (i : Nat) => L.length - i) 0 0 (by exact ⟨rfl, rfl, rfl, rfl, rfl, rfl, rfl, rfl, rfl, rfl, rfl, trivial⟩) (by rfl) ?_ ?_
        · exact Nat.zero_le _
        rintro g i hi
        (refine wct_assoc ?_)
        refine wct_region_seq (by simp) ?_
        refine wot_o rfl (opt_move (by rfl) (by rfl)) (by rfl) (by rfl) (by rfl) ?_
        refine wot_o rfl (opt_move (by rfl) (by rfl)) (by rfl) (by rfl) (by rfl) ?_
        refine wot_o rfl (by exact opt_len_fz (by rfl) (by rfl) (by rfl)) (by rfl) (by rfl) (by rfl) ?_
        refine wot_o rfl (opt_cmp (by rfl) (by rfl) (by rfl) (by rfl) (by rfl)) (by rfl) (by rfl) (by rfl) ?_
        refine wot_nil ?_
        refine wct_if_seq (by rfl) (by rfl) (fun c3 => ?_) (fun c3 => ?_)
        · (refine wct_skip_seq ?_; refine wct_block_sq ?_)
          try simp only [Int.toNat_natCast] at c3
          refine wct_region_seq (by simp) ?_
          refine wot_o rfl (opt_move (by rfl) (by rfl)) (by rfl) (by rfl) (by rfl) ?_
          refine wot_o rfl (opt_move (by rfl) (by rfl)) (by rfl) (by rfl) (by rfl) ?_
          refine wot_o rfl (by exact opt_index_lstN (by rfl) (by rfl) (by rfl) (by rfl) (by omega) (by rfl)) (by rfl) (by rfl) (by rfl) ?_
          refine wot_o rfl (by exact opt_load_fp_1 (by rfl) (by rfl) (by rfl)) (by rfl) (by rfl) (by rfl) ?_
          refine wot_o rfl (opt_move (by rfl) (by rfl)) (by rfl) (by rfl) (by rfl) ?_
          refine wot_o rfl (opt_cmp (by rfl) (by rfl) (by rfl) (by rfl) (by rfl)) (by rfl) (by rfl) (by rfl) ?_
          refine wot_nil ?_
          refine wct_if (by rfl) (by rfl) (fun c4 => ?_) (fun c4 => ?_)
          · (skip)
            try simp only [Int.toNat_natCast] at c4
            have hwl := woI_len (L.take i) N
            have htl : (L.take i).length ≤ L.length := List.length_take_le' _ _
            refine wct_draw (by kernel_rfl) (u := []) (by kernel_rfl) ?_
            refine wtt_o rfl (opt_move (by rfl) (by rfl)) (by rfl) (by rfl) (by rfl) ?_
            refine wtt_o rfl (opt_move (by rfl) (by rfl)) (by rfl) (by rfl) (by rfl) ?_
            refine wtt_o rfl (opt_move (by rfl) (by rfl)) (by rfl) (by rfl) (by rfl) ?_
            refine wtt_o rfl (opt_move (by rfl) (by rfl)) (by rfl) (by rfl) (by rfl) ?_
            refine wtt_o rfl (by exact opt_index_lN (by rfl) (by rfl) (by rfl) (by rfl) (by rfl) (by omega)) (by rfl) (by rfl) (by rfl) ?_
            refine wtt_o rfl (opt_load_h (by rfl) (by rfl) (by rfl) (by rfl) hkl) (by rfl) (by rfl) (by rfl) ?_
            refine wtt_o rfl (opt_move (by rfl) (by rfl)) (by rfl) (by rfl) (by rfl) ?_
            refine wtt_o rfl (opt_move (by rfl) (by rfl)) (by rfl) (by rfl) (by rfl) ?_
            refine wtt_o rfl (by exact opt_index_lstN (by rfl) (by rfl) (by rfl) (by rfl) (by omega) (by rfl)) (by rfl) (by rfl) (by rfl) ?_
            refine wtt_o rfl (by exact opt_load_fp_1 (by rfl) (by rfl) (by rfl)) (by rfl) (by rfl) (by rfl) ?_
            refine wtt_o rfl (opt_lit_l ([at' L i]) (by rfl) (by rfl) (by rfl) (by rfl) (by rfl) (by rfl) (by rfl) (by rfl) (by rfl) (by rfl)) (by rfl) (by rfl) (by rfl) ?_
            refine wtt_of rfl (opt_append_l (by rfl) (by rfl) (by rfl) (by rfl) src_lst (by rfl) (by rfl) (by rfl) (by (simp only [List.length_append, List.length_cons, List.length_nil, List.length_take, List.length_drop, List.length_set, List.length_replicate]; omega)) (by rfl)) (EffOk.pure hX) (by rfl) (by rfl) (by rfl) ?_
            refine wtt_o rfl (by exact opt_index_lN (by rfl) (by rfl) (by rfl) (by rfl) (by rfl) (by omega)) (by rfl) (by rfl) (by rfl) ?_
            refine wtt_of0 rfl (opt_store_h1 (by rfl) (by rfl) (by rfl) (by rfl) (by rfl) (by trivial) (by rfl) (by rfl) hkl) (EffOk.pure hX) (by rfl) (by rfl) ?_
            refine wtt_nil ?_
            refine ⟨trivial, ?_⟩
            (refine qbt_normal ?_; refine qst_wct ?_)
            refine wct_region (by simp) ?_
            refine wot_o rfl (opt_move (by rfl) (by rfl)) (by rfl) (by rfl) (by rfl) ?_
            refine wot_o rfl (opt_add (by rfl) (by rfl) (by rfl) (by rfl) (by constructor <;> omega)) (by rfl) (by rfl) (by rfl) ?_
            refine wot_o rfl (opt_assign (by rfl) (by rfl)) (by rfl) (by rfl) (by rfl) ?_
            refine wot_nil ?_
            (refine qst_loop ?_)
            refine rnd (g + 1, i + 1) (by (try simp only); omega) ?_ (by exact ⟨rfl, rfl, rfl, rfl, rfl, rfl, rfl, rfl, rfl, rfl, rfl, trivial⟩) (by rw [woI_succ (by omega), if_pos (by assumption)]; rfl)
            try dsimp only
            omega
          · (refine wct_skip ?_; refine qbt_normal ?_; refine qst_wct ?_)
            try simp only [Int.toNat_natCast] at c4
            refine wct_region (by simp) ?_
            refine wot_o rfl (opt_move (by rfl) (by rfl)) (by rfl) (by rfl) (by rfl) ?_
            refine wot_o rfl (opt_add (by rfl) (by rfl) (by rfl) (by rfl) (by constructor <;> omega)) (by rfl) (by rfl) (by rfl) ?_
            refine wot_o rfl (opt_assign (by rfl) (by rfl)) (by rfl) (by rfl) (by rfl) ?_
            refine wot_nil ?_
            (refine qst_loop ?_)
            refine rnd (g, i + 1) (by (try simp only); omega) ?_ (by exact ⟨rfl, rfl, rfl, rfl, rfl, rfl, rfl, rfl, rfl, rfl, rfl, trivial⟩) (by rw [woI_succ (by omega), if_neg (by assumption)])
            try dsimp only
            omega
        · (refine wct_exit_seq ?_; refine wct_assoc ?_)
          try simp only [Int.toNat_natCast] at c3
          obtain rfl : i = L.length := by omega
          rw [List.take_length]
          refine wct_region_seq (by simp) ?_
          refine wot_o rfl (opt_move (by rfl) (by rfl)) (by rfl) (by rfl) (by rfl) ?_
          refine wot_o rfl (opt_move (by rfl) (by rfl)) (by rfl) (by rfl) (by rfl) ?_
          refine wot_o rfl (by exact opt_index_lN (by rfl) (by rfl) (by rfl) (by rfl) (by rfl) (by omega)) (by rfl) (by rfl) (by rfl) ?_
          refine wot_o rfl (opt_load_h (by rfl) (by rfl) (by rfl) (by rfl) hkl) (by rfl) (by rfl) (by rfl) ?_
          refine wot_o rfl (by exact opt_len_own (by rfl) (by rfl) (by rfl) (by rfl)) (by rfl) (by rfl) (by rfl) ?_
          refine wot_o rfl (opt_move (by rfl) (by rfl)) (by rfl) (by rfl) (by rfl) ?_
          refine wot_o rfl (by exact opt_len_fz (by rfl) (by rfl) (by rfl)) (by rfl) (by rfl) (by rfl) ?_
          refine wot_o rfl (opt_cmp (by rfl) (by rfl) (by rfl) (by rfl) (by rfl)) (by rfl) (by rfl) (by rfl) ?_
          refine wot_nil ?_
          refine wct_if_seq (by rfl) (by rfl) (fun c5 => ?_) (fun c5 => ?_)
          · (skip)
            try simp only [Int.toNat_natCast] at c5
            refine wct_region_seq (by simp) ?_
            refine wot_o rfl (opt_move (by rfl) (by rfl)) (by rfl) (by rfl) (by rfl) ?_
            refine wot_o rfl (opt_move (by rfl) (by rfl)) (by rfl) (by rfl) (by rfl) ?_
            refine wot_o rfl (opt_move (by rfl) (by rfl)) (by rfl) (by rfl) (by rfl) ?_
            refine wot_o rfl (opt_move (by rfl) (by rfl)) (by rfl) (by rfl) (by rfl) ?_
            refine wot_c hTb rfl (call_bin (by rfl) (by rfl)) (by refine Drs.cons (by exact Dr.cl (by exact lst_cl _)) ?_; refine Drs.cons (by exact Dr.cl (by exact Cl.v _)) ?_; exact Drs.nil) (pu50 (by omega)) (by exact lst_cl _) (by rfl) (by rfl) (by rfl) ?_
            refine wot_o rfl (by exact opt_index_lN (by rfl) (by rfl) (by rfl) (by rfl) (by rfl) (by omega)) (by rfl) (by rfl) (by rfl) ?_
            refine wot_of0 rfl (opt_store_hl (by rfl) (by rfl) (by rfl) (by rfl) (by rfl) (by rfl) hkl) (EffOk.pure hX) (by rfl) (by rfl) ?_
            refine wot_nil ?_
            refine wct_region_seq (by simp) ?_
            refine wot_o rfl (opt_move (by rfl) (by rfl)) (by rfl) (by rfl) (by rfl) ?_
            refine wot_o rfl (opt_move (by rfl) (by rfl)) (by rfl) (by rfl) (by rfl) ?_
            refine wot_o rfl (opt_build (by rfl) (by rfl) (by rfl) (by rfl)) (by rfl) (by rfl) (by rfl) ?_
            refine wot_of0 rfl (by exact opt_store_row (by rfl) (by rfl) (by rfl) (by rfl) (by rfl) (by trivial) (by rfl) (by rfl) (by rfl)) (EffOk.pure hX) (by rfl) (by rfl) ?_
            refine wot_nil ?_
            (refine wct_ret ?_)
            refine finp_cell (by simp) rfl (by rfl) (by rfl) (by rfl) (by rfl) (Dr.agg (.cons (dr_ow (xs := x.in_.set K (addI L N)) (by rfl) (List.length_set ..).symm (by rfl) (by omega) (Nat.le_refl _)) (.cons (dr_ow (xs := x.out) (by rfl) rfl (by rfl) (by omega) (Nat.le_refl _)) .nil))) ?_
            rw [chgL, if_pos (by omega)]; rfl
          · (refine wct_skip_seq ?_)
            try simp only [Int.toNat_natCast] at c5
            refine wct_ghost (g_freezecell (i := 3) (j := 1) (o := K) rfl rfl (by decide) (by rw [hC, List.getElem?_set, if_pos rfl, if_pos (by rw [lflat_len]; exact hkl)]) (by rw [hX]; exact Nat.zero_le _) (fz_own (xs := woI L N) rfl rfl (by have := woI_len L N; omega) (Nat.le_refl _))) ?_
            rw [hC_fill hkl]
            refine wct_region_seq (by simp) ?_
            refine wot_o rfl (opt_move (by rfl) (by rfl)) (by rfl) (by rfl) (by rfl) ?_
            refine wot_o rfl (opt_move (by rfl) (by rfl)) (by rfl) (by rfl) (by rfl) ?_
            refine wot_o rfl (opt_build (by rfl) (by rfl) (by rfl) (by rfl)) (by rfl) (by rfl) (by rfl) ?_
            refine wot_of0 rfl (by exact opt_store_row (by rfl) (by rfl) (by rfl) (by rfl) (by rfl) (by trivial) (by rfl) (by rfl) (by rfl)) (EffOk.pure hX) (by rfl) (by rfl) ?_
            refine wot_nil ?_
            (refine wct_ret ?_)
            refine finp_cell (by simp) rfl (by rfl) (by rfl) (by rfl) (by rfl) (Dr.agg (.cons (dr_ow (xs := x.in_.set K (woI L N)) (by rfl) (List.length_set ..).symm (by rfl) (by omega) (Nat.le_refl _)) (.cons (dr_ow (xs := x.out) (by rfl) rfl (by rfl) (by omega) (Nat.le_refl _)) .nil))) ?_
            rw [chgL, if_neg (by omega)]; rfl
theorem pu15b {c : Code} {x : Live} {kd bl rg : Nat} (hf : Fit c) (hli : x.in_.length = c.b.length) (hlo : x.out.length = c.b.length) (hl : ∀ l ∈ x.out, l.length ≤ 2 ^ 20) (hkd : kd % 2 = 1) (hkb : kd < 256) (hbl : bl < 256) (hrg : rg < 256) : Pu Tryd.prog 15 [Enc.tv c, Enc.tv x, .agg [.v (.int .u8 (kd : Int)), .v (.int .u8 (bl : Int)), .v (.int .u8 (rg : Int))]] (Eq (Enc.tv (⟨x.in_, x.out.set (bl % c.b.length) (chgL (at' x.out (bl % c.b.length)) (((rg % (c.regs + 2).toNat : Nat) : Int) - 1))⟩ : Live))) := by
  have hnb := hf.nb
  have hrr := hf.rg
  have hK := Nat.mod_lt bl hnb.1
  have hR := Nat.mod_lt rg (show 0 < (c.regs + 2).toNat by omega)
  have hR2 : (c.regs + 2).toNat ≤ 258 := by omega
  refine pu_fn fn15 (by rfl) (by rfl) (by rfl) fun X hX hTb => ?_
  refine wct_region_seq (by simp) ?_
  refine wot_o rfl (opt_box_fz (by rfl) (by rfl) (by trivial)) (by rfl) (by rfl) (by rfl) ?_
  refine wot_o rfl (opt_box_fz (by rfl) (by rfl) (by trivial)) (by rfl) (by rfl) (by rfl) ?_
  refine wot_o rfl (opt_box_fz (by rfl) (by rfl) (by trivial)) (by rfl) (by rfl) (by rfl) ?_
  refine wot_o rfl (opt_alloc (by rfl)) (by rfl) (by rfl) (by rfl) ?_
  refine wot_nil ?_
  (refine wct_assoc ?_)
  refine wct_region_seq (by simp) ?_
  refine wot_o rfl (by exact opt_fieldAddr_fp (by rfl) (by rfl)) (by rfl) (by rfl) (by rfl) ?_
  refine wot_o rfl (by exact opt_load_fp_1 (by rfl) (by rfl) (by rfl)) (by rfl) (by rfl) (by rfl) ?_
  refine wot_o rfl (by exact opt_len_fz (by rfl) (by rfl) (by rfl)) (by rfl) (by rfl) (by rfl) ?_
  refine wot_o rfl (by exact opt_fieldAddr_fp (by rfl) (by rfl)) (by rfl) (by rfl) (by rfl) ?_
  refine wot_o rfl (by exact opt_load_fp_1 (by rfl) (by rfl) (by rfl)) (by rfl) (by rfl) (by rfl) ?_
  refine wot_o rfl (by exact opt_len_fz (by rfl) (by rfl) (by rfl)) (by rfl) (by rfl) (by rfl) ?_
  refine wot_o rfl (opt_cmp (by rfl) (by rfl) (by rfl) (by rfl) (by rfl)) (by rfl) (by rfl) (by rfl) ?_
  refine wot_o rfl (opt_move (by rfl) (by rfl)) (by rfl) (by rfl) (by rfl) ?_
  refine wot_split (d := 21) (by rfl) (fun g8 => ?_) (fun g8 => ?_)
  · refine wot_sg (by rfl) (by rfl) (by rfl) (by rfl) (by rfl) (by rfl) ?_
    refine wot_sg (by rfl) (by rfl) (by rfl) (by rfl) (by rfl) (by rfl) ?_
    refine wot_sg (by rfl) (by rfl) (by rfl) (by rfl) (by rfl) (by rfl) ?_
    refine wot_sg (by rfl) (by rfl) (by rfl) (by rfl) (by rfl) (by rfl) ?_
    refine wot_sg (by rfl) (by rfl) (by rfl) (by rfl) (by rfl) (by rfl) ?_
    refine wot_sg (by rfl) (by rfl) (by rfl) (by rfl) (by rfl) (by rfl) ?_
    refine wot_sg (by rfl) (by rfl) (by rfl) (by rfl) (by rfl) (by rfl) ?_
    refine wot_o rfl (by exact opt_pick_t (by rfl) (by rfl) (by rfl) (by rfl) (by rfl) (by rfl) (by rfl)) (by rfl) (by rfl) (by rfl) ?_
    refine wot_nil ?_
    refine wct_tt_seq (by rfl) (by rfl) ?_
    (refine wct_assoc ?_)
    refine wct_region_seq (by simp) ?_
    refine wot_o rfl (by exact opt_load_fp_row (by rfl) (by rfl) (by rfl)) (by rfl) (by rfl) (by rfl) ?_
    refine wot_of0 rfl (by exact opt_store_row (by rfl) (by rfl) (by rfl) (by rfl) (by rfl) (by trivial) (by rfl) (by rfl) (by rfl)) (EffOk.pure hX) (by rfl) (by rfl) ?_
    refine wot_nil ?_
    (refine wct_ret_seq ?_)
    exfalso; omega
  · refine wot_og rfl (by exact opt_fieldAddr_fp (by rfl) (by rfl)) (by rfl) (by rfl) (by rfl) (by rfl) (by rfl) (by rfl) ?_
    refine wot_og rfl (by exact opt_load_fp_1 (by rfl) (by rfl) (by rfl)) (by rfl) (by rfl) (by rfl) (by rfl) (by rfl) (by rfl) ?_
    refine wot_og rfl (by exact opt_len_fz (by rfl) (by rfl) (by rfl)) (by rfl) (by rfl) (by rfl) (by rfl) (by rfl) (by rfl) ?_
    refine wot_og rfl (by exact opt_fieldAddr_fp (by rfl) (by rfl)) (by rfl) (by rfl) (by rfl) (by rfl) (by rfl) (by rfl) ?_
    refine wot_og rfl (by exact opt_load_fp_1 (by rfl) (by rfl) (by rfl)) (by rfl) (by rfl) (by rfl) (by rfl) (by rfl) (by rfl) ?_
    refine wot_og rfl (by exact opt_len_fz (by rfl) (by rfl) (by rfl)) (by rfl) (by rfl) (by rfl) (by rfl) (by rfl) (by rfl) ?_
    refine wot_og rfl (opt_cmp (by rfl) (by rfl) (by rfl) (by rfl) (by rfl)) (by rfl) (by rfl) (by rfl) (by rfl) (by rfl) (by rfl) ?_
    refine wot_o rfl (by exact opt_pick_f (by rfl) (by rfl) (by rfl) (by rfl) (by rfl) (by rfl) (by rfl)) (by rfl) (by rfl) (by rfl) ?_
    refine wot_nil ?_
    refine wct_if_seq (by rfl) (by rfl) (fun c1 => ?_) (fun c1 => ?_)
    · (refine wct_assoc ?_)
      try simp only [Int.toNat_natCast] at c1
      refine wct_region_seq (by simp) ?_
      refine wot_o rfl (by exact opt_load_fp_row (by rfl) (by rfl) (by rfl)) (by rfl) (by rfl) (by rfl) ?_
      refine wot_of0 rfl (by exact opt_store_row (by rfl) (by rfl) (by rfl) (by rfl) (by rfl) (by trivial) (by rfl) (by rfl) (by rfl)) (EffOk.pure hX) (by rfl) (by rfl) ?_
      refine wot_nil ?_
      (refine wct_ret_seq ?_)
      exfalso; omega
    · (refine wct_skip_seq ?_)
      try simp only [Int.toNat_natCast] at c1
      refine wct_draw_seq (by kernel_rfl) (u := []) (by kernel_rfl) ?_
      refine wtt_o rfl (by exact opt_fieldAddr_fp (by rfl) (by rfl)) (by rfl) (by rfl) (by rfl) ?_
      refine wtt_o rfl (by exact opt_load_fp_1 (by rfl) (by rfl) (by rfl)) (by rfl) (by rfl) (by rfl) ?_
      refine wtt_o rfl (opt_conv (by rfl) (by rfl) (convU8n (by omega)) (by rfl) (by rfl)) (by rfl) (by rfl) (by rfl) ?_
      refine wtt_o rfl (by exact opt_fieldAddr_fp (by rfl) (by rfl)) (by rfl) (by rfl) (by rfl) ?_
      refine wtt_o rfl (by exact opt_load_fp_1 (by rfl) (by rfl) (by rfl)) (by rfl) (by rfl) (by rfl) ?_
      refine wtt_o rfl (by exact opt_len_fz (by rfl) (by rfl) (by rfl)) (by rfl) (by rfl) (by rfl) ?_
      refine wtt_o rfl (by exact opt_remNN (by rfl) (by rfl) (by rfl) (by rfl) (by omega)) (by rfl) (by rfl) (by rfl) ?_
      refine wtt_o rfl (by exact opt_fieldAddr_fp (by rfl) (by rfl)) (by rfl) (by rfl) (by rfl) ?_
      refine wtt_o rfl (by exact opt_load_fp_1 (by rfl) (by rfl) (by rfl)) (by rfl) (by rfl) (by rfl) ?_
      refine wtt_o rfl (opt_conv (by rfl) (by rfl) (convU8n (by omega)) (by rfl) (by rfl)) (by rfl) (by rfl) (by rfl) ?_
      refine wtt_o rfl (by exact opt_fieldAddr_fp (by rfl) (by rfl)) (by rfl) (by rfl) (by rfl) ?_
      refine wtt_o rfl (by exact opt_load_fp_1 (by rfl) (by rfl) (by rfl)) (by rfl) (by rfl) (by rfl) ?_
      refine wtt_o rfl (opt_add (by rfl) (by rfl) (by rfl) (by rfl) (by constructor <;> omega)) (by rfl) (by rfl) (by rfl) ?_
      refine wtt_o rfl (opt_remNB (b := (c.regs + 2).toNat) (by rfl) (by rfl) (by rfl) (by rfl) (by omega) (by omega)) (by rfl) (by rfl) (by rfl) ?_
      refine wtt_o rfl (opt_sub (by rfl) (by rfl) (by rfl) (by rfl) (by constructor <;> omega)) (by rfl) (by rfl) (by rfl) ?_
      refine wtt_o rfl (opt_assign (by rfl) (by rfl)) (by rfl) (by rfl) (by rfl) ?_
      refine wtt_o rfl (opt_assign (by rfl) (by rfl)) (by rfl) (by rfl) (by rfl) ?_
      refine wtt_nil ?_
      refine ⟨trivial, ?_⟩
      refine wct_draw_seq (by kernel_rfl) (u := [(6, 3)]) (by kernel_rfl) ?_
      refine wtt_o rfl (opt_litO_l (([] : List (List Int))) (by rfl) (by rfl) (by rfl) (by rfl) (by rfl) (by rfl) (by rfl) (by rfl) (by rfl) (by rfl)) (by rfl) (by rfl) (by rfl) ?_
      refine wtt_o rfl (by exact opt_fieldAddr_fp (by rfl) (by rfl)) (by rfl) (by rfl) (by rfl) ?_
      refine wtt_o rfl (by exact opt_load_fp_1 (by rfl) (by rfl) (by rfl)) (by rfl) (by rfl) (by rfl) ?_
      refine wtt_of rfl (by exact opt_append_l (by rfl) (by rfl) (by rfl) (by rfl) src_lst (by rfl) (by rfl) (by rfl) (by (simp only [List.length_append, List.length_cons, List.length_nil, List.length_take, List.length_drop]; omega)) (by rfl)) (EffOk.pure hX) (by rfl) (by rfl) (by rfl) ?_
      refine wtt_o rfl (opt_litO_l (([] : List (List Int))) (by rfl) (by rfl) (by rfl) (by rfl) (by rfl) (by rfl) (by rfl) (by rfl) (by rfl) (by rfl)) (by rfl) (by rfl) (by rfl) ?_
      refine wtt_o rfl (by exact opt_fieldAddr_fp (by rfl) (by rfl)) (by rfl) (by rfl) (by rfl) ?_
      refine wtt_o rfl (by exact opt_load_fp_1 (by rfl) (by rfl) (by rfl)) (by rfl) (by rfl) (by rfl) ?_
      refine wtt_of rfl (by exact opt_append_l (by rfl) (by rfl) (by rfl) (by rfl) src_lst (by rfl) (by rfl) (by rfl) (by (simp only [List.length_append, List.length_cons, List.length_nil, List.length_take, List.length_drop]; omega)) (by rfl)) (EffOk.pure hX) (by rfl) (by rfl) (by rfl) ?_
      refine wtt_o rfl (opt_assign (by rfl) (by rfl)) (by rfl) (by rfl) (by rfl) ?_
      refine wtt_o rfl (opt_assign (by rfl) (by rfl)) (by rfl) (by rfl) (by rfl) ?_
      refine wtt_nil ?_
      refine ⟨⟨(by exact ChkT.fp (by rfl) (by rfl) (by rfl) (by rfl) (by rfl)), trivial⟩, ?_⟩
      refine wct_region_seq (by simp) ?_
      refine wot_o rfl (opt_move (by rfl) (by rfl)) (by rfl) (by rfl) (by rfl) ?_
      refine wot_o rfl (opt_assign (by rfl) (by rfl)) (by rfl) (by rfl) (by rfl) ?_
      refine wot_nil ?_
      (refine wct_assoc ?_)
      refine wct_region_seq (by simp) ?_
      refine wot_o rfl (by exact opt_fieldAddr_fp (by rfl) (by rfl)) (by rfl) (by rfl) (by rfl) ?_
      refine wot_o rfl (by exact opt_load_fp_1 (by rfl) (by rfl) (by rfl)) (by rfl) (by rfl) (by rfl) ?_
      refine wot_o rfl (opt_remU8 (by rfl) (by rfl) (by rfl) (by rfl)) (by rfl) (by rfl) (by rfl) ?_
      refine wot_o rfl (opt_cmp (by rfl) (by rfl) (by rfl) (by rfl) (by rfl)) (by rfl) (by rfl) (by rfl) ?_
      refine wot_nil ?_
      refine wct_if_seq (by rfl) (by rfl) (fun c2 => ?_) (fun c2 => ?_)
      · (skip)
        try simp only [Int.toNat_natCast] at c2
        refine wct_region_seq (by simp) ?_
        refine wot_o rfl (opt_move (by rfl) (by rfl)) (by rfl) (by rfl) (by rfl) ?_
        refine wot_o rfl (opt_assign (by rfl) (by rfl)) (by rfl) (by rfl) (by rfl) ?_
        refine wot_nil ?_
        obtain ⟨K, hKe⟩ : ∃ K, K = bl % c.b.length := ⟨_, rfl⟩
        obtain ⟨N, hNe⟩ : ∃ N : Int, N = ((rg % (c.regs + 2).toNat : Nat) : Int) - 1 := ⟨_, rfl⟩
        rw [← hKe, ← hNe]
        rw [← hKe] at hK
        obtain ⟨L, hLe⟩ : ∃ L, L = at' x.out K := ⟨_, rfl⟩
        rw [← hLe]
        have hkl : K < x.out.length := by omega
        have hL20 : L.length ≤ 2 ^ 20 := by rw [hLe]; exact hl _ (at_mem' hkl)
        refine wct_ghost (E' := [(3, .fp false (cls c) 0), (4, .fp false (cls x) 0), (5, .fp false [.v (.int .u8 (kd : Int)), .v (.int .u8 (bl : Int)), .v (.int .u8 (rg : Int))] 0), (6, .pt 0 0 0), (7, ti ((K : Nat) : Int)), (8, ti N), (9, .own 1 1 1 0 x.in_.length x.in_.length), (10, .own 2 1 1 0 x.out.length x.out.length), (11, .own 2 1 1 0 x.out.length x.out.length)]) (Th' := [⟨0, some (38, [.v (.slice none 0 0), .v (.slice none 0 0)])⟩, rl 1 47 x.in_, rl 1 47 x.out]) (fun T G p h => ⟨p, Rl.sub (F := [(3, .fp false (cls c) 0), (4, .fp false (cls x) 0), (5, .fp false [.v (.int .u8 (kd : Int)), .v (.int .u8 (bl : Int)), .v (.int .u8 (rg : Int))] 0), (6, .pt 0 0 0), (7, ti ((K : Nat) : Int)), (8, ti N), (9, .own 1 1 1 0 x.in_.length x.in_.length), (10, .own 2 1 1 0 x.out.length x.out.length), (11, .own 2 1 1 0 x.out.length x.out.length)]) (show Rl X _ ([⟨0, some (38, [.v (.slice none 0 0), .v (.slice none 0 0)])⟩, rl 1 47 x.in_, rl 1 47 x.out]) T G p from h) (by exact ⟨rfl, rfl, rfl, rfl, rfl, rfl, rfl, rfl, rfl, trivial⟩)⟩) ?_
        refine wct_region_seq (by simp) ?_
        refine wot_o rfl (opt_move (by rfl) (by rfl)) (by rfl) (by rfl) (by rfl) ?_
        refine wot_o rfl (opt_move (by rfl) (by rfl)) (by rfl) (by rfl) (by rfl) ?_
        refine wot_o rfl (by exact opt_index_lN (by rfl) (by rfl) (by rfl) (by rfl) (by rfl) (by omega)) (by rfl) (by rfl) (by rfl) ?_
        refine wot_o rfl (opt_load_l1 (by rfl) (by rfl) (by rfl) hkl (by rw [← hLe]; rfl) (by rfl)) (by rfl) (by rfl) (by rfl) ?_
        refine wot_o rfl (opt_assign (by rfl) (by rfl)) (by rfl) (by rfl) (by rfl) ?_
        refine wot_nil ?_
        refine wct_region_seq (by simp) ?_
        refine wot_o rfl (opt_move (by rfl) (by rfl)) (by rfl) (by rfl) (by rfl) ?_
        refine wot_o rfl (opt_move (by rfl) (by rfl)) (by rfl) (by rfl) (by rfl) ?_
        refine wot_o rfl (opt_litO_l (([] : List Int)) (by rfl) (by rfl) (by rfl) (by rfl) (by rfl) (by rfl) (by rfl) (by rfl) (by rfl) (by rfl)) (by rfl) (by rfl) (by rfl) ?_
        refine wot_o rfl (by exact opt_index_lN (by rfl) (by rfl) (by rfl) (by rfl) (by rfl) (by omega)) (by rfl) (by rfl) (by rfl) ?_
        refine wot_of0 rfl (opt_store_h0 (by rfl) (by rfl) (by rfl) (by rfl) (by rfl) (by trivial) (by rfl) (by rfl) hkl) (EffOk.pure hX) (by rfl) (by rfl) ?_
        refine wot_nil ?_
        (refine wct_assoc ?_)
        refine wct_region_seq (by simp) ?_
        refine wot_o rfl (opt_assign_c (by rfl)) (by rfl) (by rfl) (by rfl) ?_
        refine wot_nil ?_
        refine wct_loop2 (fun (g : Nat) (i : Nat) => i ≤ L.length) (fun (g : Nat) (i : Nat) => [(3, .fp false (cls c) 0), (4, .fp false (cls x) 0), (5, .fp false [.v (.int .u8 (kd : Int)), .v (.int .u8 (bl : Int)), .v (.int .u8 (rg : Int))] 0), (6, .pt 0 0 0), (7, ti ((K : Nat) : Int)), (8, ti N), (9, .own 1 1 1 0 x.in_.length x.in_.length), (10, .own 2 1 1 0 x.out.length x.out.length), (11, .own 2 1 1 0 x.out.length x.out.length), (12, lst false L), (13, ti (i : Int))]) (fun (g : Nat) (i : Nat) => [⟨0, some (38, [.v (.slice none 0 0), .v (.slice none 0 0)])⟩, rl 1 47 x.in_, ⟨1, some (47, hC x.out K (ownl 3 g (woI (L.take i) N)))⟩, rl g 3 (woI (L.take i) N)]) (fun (g : Nat) (i : Nat) => L.length - i) 0 0 (by exact ⟨rfl, rfl, rfl, rfl, rfl, rfl, rfl, rfl, rfl, rfl, rfl, trivial⟩) (by rfl) ?_ ?_
        · exact Nat.zero_le _
        rintro g i hi
        (refine wct_assoc ?_)
        refine wct_region_seq (by simp) ?_
        refine wot_o rfl (opt_move (by rfl) (by rfl)) (by rfl) (by rfl) (by rfl) ?_
        refine wot_o rfl (opt_move (by rfl) (by rfl)) (by rfl) (by rfl) (by rfl) ?_
        refine wot_o rfl (by exact opt_len_fz (by rfl) (by rfl) (by rfl)) (by rfl) (by rfl) (by rfl) ?_
        refine wot_o rfl (opt_cmp (by rfl) (by rfl) (by rfl) (by rfl) (by rfl)) (by rfl) (by rfl) (by rfl) ?_
        refine wot_nil ?_
        refine wct_if_seq (by rfl) (by rfl) (fun c3 => ?_) (fun c3 => ?_)
        · (refine wct_skip_seq ?_; refine wct_block_sq ?_)
          try simp only [Int.toNat_natCast] at c3
          refine wct_region_seq (by simp) ?_
          refine wot_o rfl (opt_move (by rfl) (by rfl)) (by rfl) (by rfl) (by rfl) ?_
          refine wot_o rfl (opt_move (by rfl) (by rfl)) (by rfl) (by rfl) (by rfl) ?_
          refine wot_o rfl (by exact opt_index_lstN (by rfl) (by rfl) (by rfl) (by rfl) (by omega) (by rfl)) (by rfl) (by rfl) (by rfl) ?_
          refine wot_o rfl (by exact opt_load_fp_1 (by rfl) (by rfl) (by rfl)) (by rfl) (by rfl) (by rfl) ?_
          refine wot_o rfl (opt_move (by rfl) (by rfl)) (by rfl) (by rfl) (by rfl) ?_
          refine wot_o rfl (opt_cmp (by rfl) (by rfl) (by rfl) (by rfl) (by rfl)) (by rfl) (by rfl) (by rfl) ?_
          refine wot_nil ?_
          refine wct_if (by rfl) (by rfl) (fun c4 => ?_) (fun c4 => ?_)
          · (skip)
            try simp only [Int.toNat_natCast] at c4
            have hwl := woI_len (L.take i) N
            have htl : (L.take i).length ≤ L.length := List.length_take_le' _ _
            refine wct_draw (by kernel_rfl) (u := []) (by kernel_rfl) ?_
            refine wtt_o rfl (opt_move (by rfl) (by rfl)) (by rfl) (by rfl) (by rfl) ?_
            refine wtt_o rfl (opt_move (by rfl) (by rfl)) (by rfl) (by rfl) (by rfl) ?_
            refine wtt_o rfl (opt_move (by rfl) (by rfl)) (by rfl) (by rfl) (by rfl) ?_
            refine wtt_o rfl (opt_move (by rfl) (by rfl)) (by rfl) (by rfl) (by rfl) ?_
            refine wtt_o rfl (by exact opt_index_lN (by rfl) (by rfl) (by rfl) (by rfl) (by rfl) (by omega)) (by rfl) (by rfl) (by rfl) ?_
            refine wtt_o rfl (opt_load_h (by rfl) (by rfl) (by rfl) (by rfl) hkl) (by rfl) (by rfl) (by rfl) ?_
            refine wtt_o rfl (opt_move (by rfl) (by rfl)) (by rfl) (by rfl) (by rfl) ?_
            refine wtt_o rfl (opt_move (by rfl) (by rfl)) (by rfl) (by rfl) (by rfl) ?_
            refine wtt_o rfl (by exact opt_index_lstN (by rfl) (by rfl) (by rfl) (by rfl) (by omega) (by rfl)) (by rfl) (by rfl) (by rfl) ?_
            refine wtt_o rfl (by exact opt_load_fp_1 (by rfl) (by rfl) (by rfl)) (by rfl) (by rfl) (by rfl) ?_
            refine wtt_o rfl (opt_lit_l ([at' L i]) (by rfl) (by rfl) (by rfl) (by rfl) (by rfl) (by rfl) (by rfl) (by rfl) (by rfl) (by rfl)) (by rfl) (by rfl) (by rfl) ?_
            refine wtt_of rfl (opt_append_l (by rfl) (by rfl) (by rfl) (by rfl) src_lst (by rfl) (by rfl) (by rfl) (by (simp only [List.length_append, List.length_cons, List.length_nil, List.length_take, List.length_drop, List.length_set, List.length_replicate]; omega)) (by rfl)) (EffOk.pure hX) (by rfl) (by rfl) (by rfl) ?_
            refine wtt_o rfl (by exact opt_index_lN (by rfl) (by rfl) (by rfl) (by rfl) (by rfl) (by omega)) (by rfl) (by rfl) (by rfl) ?_
            refine wtt_of0 rfl (opt_store_h1 (by rfl) (by rfl) (by rfl) (by rfl) (by rfl) (by trivial) (by rfl) (by rfl) hkl) (EffOk.pure hX) (by rfl) (by rfl) ?_
            refine wtt_nil ?_
            refine ⟨trivial, ?_⟩
            (refine qbt_normal ?_; refine qst_wct ?_)
            refine wct_region (by simp) ?_
            refine wot_o rfl (opt_move (by rfl) (by rfl)) (by rfl) (by rfl) (by rfl) ?_
            refine wot_o rfl (opt_add (by rfl) (by rfl) (by rfl) (by rfl) (by constructor <;> omega)) (by rfl) (by rfl) (by rfl) ?_
            refine wot_o rfl (opt_assign (by rfl) (by rfl)) (by rfl) (by rfl) (by rfl) ?_
            refine wot_nil ?_
            (refine qst_loop ?_)
            refine rnd (g + 1, i + 1) (by (try simp only); omega) ?_ (by exact ⟨rfl, rfl, rfl, rfl, rfl, rfl, rfl, rfl, rfl, rfl, rfl, trivial⟩) (by rw [woI_succ (by omega), if_pos (by assumption)]; rfl)
            try dsimp only
            omega
          · (refine wct_skip ?_; refine qbt_normal ?_; refine qst_wct ?_)
            try simp only [Int.toNat_natCast] at c4
            refine wct_region (by simp) ?_
            refine wot_o rfl (opt_move (by rfl) (by rfl)) (by rfl) (by rfl) (by rfl) ?_
            refine wot_o rfl (opt_add (by rfl) (by rfl) (by rfl) (by rfl) (by constructor <;> omega)) (by rfl) (by rfl) (by rfl) ?_
            refine wot_o rfl (opt_assign (by rfl) (by rfl)) (by rfl) (by rfl) (by rfl) ?_
            refine wot_nil ?_
            (refine qst_loop ?_)
            refine rnd (g, i + 1) (by (try simp only); omega) ?_ (by exact ⟨rfl, rfl, rfl, rfl, rfl, rfl, rfl, rfl, rfl, rfl, rfl, trivial⟩) (by rw [woI_succ (by omega), if_neg (by assumption)])
            try dsimp only
            omega
        · (refine wct_exit_seq ?_; refine wct_assoc ?_)
          try simp only [Int.toNat_natCast] at c3
          obtain rfl : i = L.length := by omega
          rw [List.take_length]
          refine wct_region_seq (by simp) ?_
          refine wot_o rfl (opt_move (by rfl) (by rfl)) (by rfl) (by rfl) (by rfl) ?_
          refine wot_o rfl (opt_move (by rfl) (by rfl)) (by rfl) (by rfl) (by rfl) ?_
          refine wot_o rfl (by exact opt_index_lN (by rfl) (by rfl) (by rfl) (by rfl) (by rfl) (by omega)) (by rfl) (by rfl) (by rfl) ?_
          refine wot_o rfl (opt_load_h (by rfl) (by rfl) (by rfl) (by rfl) hkl) (by rfl) (by rfl) (by rfl) ?_
          refine wot_o rfl (by exact opt_len_own (by rfl) (by rfl) (by rfl) (by rfl)) (by rfl) (by rfl) (by rfl) ?_
          refine wot_o rfl (opt_move (by rfl) (by rfl)) (by rfl) (by rfl) (by rfl) ?_
          refine wot_o rfl (by exact opt_len_fz (by rfl) (by rfl) (by rfl)) (by rfl) (by rfl) (by rfl) ?_
          refine wot_o rfl (opt_cmp (by rfl) (by rfl) (by rfl) (by rfl) (by rfl)) (by rfl) (by rfl) (by rfl) ?_
          refine wot_nil ?_
          refine wct_if_seq (by rfl) (by rfl) (fun c5 => ?_) (fun c5 => ?_)
          · (skip)
            try simp only [Int.toNat_natCast] at c5
            refine wct_region_seq (by simp) ?_
            refine wot_o rfl (opt_move (by rfl) (by rfl)) (by rfl) (by rfl) (by rfl) ?_
            refine wot_o rfl (opt_move (by rfl) (by rfl)) (by rfl) (by rfl) (by rfl) ?_
            refine wot_o rfl (opt_move (by rfl) (by rfl)) (by rfl) (by rfl) (by rfl) ?_
            refine wot_o rfl (opt_move (by rfl) (by rfl)) (by rfl) (by rfl) (by rfl) ?_
            refine wot_c hTb rfl (call_bin (by rfl) (by rfl)) (by refine Drs.cons (by exact Dr.cl (by exact lst_cl _)) ?_; refine Drs.cons (by exact Dr.cl (by exact Cl.v _)) ?_; exact Drs.nil) (pu50 (by omega)) (by exact lst_cl _) (by rfl) (by rfl) (by rfl) ?_
            refine wot_o rfl (by exact opt_index_lN (by rfl) (by rfl) (by rfl) (by rfl) (by rfl) (by omega)) (by rfl) (by rfl) (by rfl) ?_
            refine wot_of0 rfl (opt_store_hl (by rfl) (by rfl) (by rfl) (by rfl) (by rfl) (by rfl) hkl) (EffOk.pure hX) (by rfl) (by rfl) ?_
            refine wot_nil ?_
            refine wct_region_seq (by simp) ?_
            refine wot_o rfl (opt_move (by rfl) (by rfl)) (by rfl) (by rfl) (by rfl) ?_
            refine wot_o rfl (opt_move (by rfl) (by rfl)) (by rfl) (by rfl) (by rfl) ?_
            refine wot_o rfl (opt_build (by rfl) (by rfl) (by rfl) (by rfl)) (by rfl) (by rfl) (by rfl) ?_
            refine wot_of0 rfl (by exact opt_store_row (by rfl) (by rfl) (by rfl) (by rfl) (by rfl) (by trivial) (by rfl) (by rfl) (by rfl)) (EffOk.pure hX) (by rfl) (by rfl) ?_
            refine wot_nil ?_
            (refine wct_ret ?_)
            refine finp_cell (by simp) rfl (by rfl) (by rfl) (by rfl) (by rfl) (Dr.agg (.cons (dr_ow (xs := x.in_) (by rfl) rfl (by rfl) (by omega) (Nat.le_refl _)) (.cons (dr_ow (xs := x.out.set K (addI L N)) (by rfl) (List.length_set ..).symm (by rfl) (by omega) (Nat.le_refl _)) .nil))) ?_
            rw [chgL, if_pos (by omega)]; rfl
          · (refine wct_skip_seq ?_)
            try simp only [Int.toNat_natCast] at c5
            refine wct_ghost (g_freezecell (i := 3) (j := 2) (o := K) rfl rfl (by decide) (by rw [hC, List.getElem?_set, if_pos rfl, if_pos (by rw [lflat_len]; exact hkl)]) (by rw [hX]; exact Nat.zero_le _) (fz_own (xs := woI L N) rfl rfl (by have := woI_len L N; omega) (Nat.le_refl _))) ?_
            rw [hC_fill hkl]
            refine wct_region_seq (by simp) ?_
            refine wot_o rfl (opt_move (by rfl) (by rfl)) (by rfl) (by rfl) (by rfl) ?_
            refine wot_o rfl (opt_move (by rfl) (by rfl)) (by rfl) (by rfl) (by rfl) ?_
            refine wot_o rfl (opt_build (by rfl) (by rfl) (by rfl) (by rfl)) (by rfl) (by rfl) (by rfl) ?_
            refine wot_of0 rfl (by exact opt_store_row (by rfl) (by rfl) (by rfl) (by rfl) (by rfl) (by trivial) (by rfl) (by rfl) (by rfl)) (EffOk.pure hX) (by rfl) (by rfl) ?_
            refine wot_nil ?_
            (refine wct_ret ?_)
            refine finp_cell (by simp) rfl (by rfl) (by rfl) (by rfl) (by rfl) (Dr.agg (.cons (dr_ow (xs := x.in_) (by rfl) rfl (by rfl) (by omega) (Nat.le_refl _)) (.cons (dr_ow (xs := x.out.set K (woI L N)) (by rfl) (List.length_set ..).symm (by rfl) (by omega) (Nat.le_refl _)) .nil))) ?_
            rw [chgL, if_neg (by omega)]; rfl
      · (refine wct_skip_seq ?_)
        try simp only [Int.toNat_natCast] at c2
        exfalso; omega
/-- An api.Live with a change. -/
def chg (c : Code) (x : Live) (kd bl rg : Nat) : Live := if kd % 2 = 1 then ⟨x.in_, x.out.set (bl % c.b.length) (chgL (at' x.out (bl % c.b.length)) (((rg % (c.regs + 2).toNat : Nat) : Int) - 1))⟩ else ⟨x.in_.set (bl % c.b.length) (chgL (at' x.in_ (bl % c.b.length)) (((rg % (c.regs + 2).toNat : Nat) : Int) - 1)), x.out⟩
theorem pu15 {c : Code} {x : Live} {kd bl rg : Nat} (hf : Fit c) (hli : x.in_.length = c.b.length) (hlo : x.out.length = c.b.length) (hl1 : ∀ l ∈ x.in_, l.length ≤ 2 ^ 20) (hl2 : ∀ l ∈ x.out, l.length ≤ 2 ^ 20) (hkb : kd < 256) (hbl : bl < 256) (hrg : rg < 256) : Pu Tryd.prog 15 [Enc.tv c, Enc.tv x, .agg [.v (.int .u8 (kd : Int)), .v (.int .u8 (bl : Int)), .v (.int .u8 (rg : Int))]] (Eq (Enc.tv (chg c x kd bl rg))) := by
  unfold chg
  split
  · exact pu15b hf hli hlo hl2 (by assumption) hkb hbl hrg
  · exact pu15a hf hli hlo hl1 (by omega) hkb hbl hrg
end Go.Ab
