/- The road to a card of this seat: G35. Each theorem holds for every input that its own premises speak of. -/
import Derived.Test.YtaaeeiheeihjaaaDoorT9qr
import Derived.Test.YtaaeeiheeihjaaaDoorG33r
import Derived.Test.YtaaeeiheeihjaaaDoorBLiveRefuses
set_option linter.all false
namespace Go.Ab
open Go.Proofs
theorem not_dup {r : Int} {l : List Int} (h : 0 < l.length) : ¬ LiOk r (l ++ l) := fun k => by
  match l, h with
  | a :: t, _ => exact absurd ((List.pairwise_append.1 k.2).2.2 a (List.mem_cons_self ..) a (List.mem_cons_self ..)) (Int.lt_irrefl a)
theorem not_snoc {r n : Int} {l : List Int} (h : ¬ (0 ≤ n ∧ n < r)) : ¬ LiOk r (l ++ [n]) := fun k => h (k.1 n (by simp))
theorem not_pair {r n : Int} : ¬ LiOk r [n, n] := fun k => by
  have := k.2
  simp at this
theorem bad_in {c : Code} {ls o : List (List Int)} {K : Nat} {q : List Int} (hK : K < c.b.length) (hl : ls.length = c.b.length) (h : ¬ LiOk c.regs q) : ¬ ClosedI c ⟨ls.set K q, o⟩ := fun k => by
  have := (k.2.2.1 K hK).1
  dsimp only at this
  rw [at_set (by omega), if_pos rfl] at this
  exact h this
theorem bad_out {c : Code} {ls i : List (List Int)} {K : Nat} {q : List Int} (hK : K < c.b.length) (hl : ls.length = c.b.length) (h : ¬ LiOk c.regs q) : ¬ ClosedI c ⟨i, ls.set K q⟩ := fun k => by
  have := (k.2.2.1 K hK).2
  dsimp only at this
  rw [at_set (by omega), if_pos rfl] at this
  exact h this
theorem pu17no {c : Code} {x : Live} (hf : Fit c) (h1 : x.in_.length ≤ 2 ^ 20) (h2 : x.out.length ≤ 2 ^ 20) (h : ¬ ClosedI c x) : Pu Tryd.prog 17 [Enc.tv c, Enc.tv x] (Eq (ti 100)) := by
  have hp := pu17 (x := x) hf h1 h2
  rwa [if_neg h] at hp
theorem pu17yes {c : Code} {x : Live} (hf : Fit c) (h1 : x.in_.length ≤ 2 ^ 20) (h2 : x.out.length ≤ 2 ^ 20) (h : ClosedI c x) : Pu Tryd.prog 17 [Enc.tv c, Enc.tv x] (Eq (ti 0)) := by
  have hp := pu17 (x := x) hf h1 h2
  rwa [if_pos h] at hp
set_option maxHeartbeats 2000000 in
theorem pu8 {L : List U8} {bk : Nat} {n : Int} (hL : LOk L) (hbk : bk < 256) : Pu Tryd.prog 8 [Enc.tv (⟨L⟩ : Raw), .v (.int .u8 (bk : Int)), ti n] (Eq (tb true)) := by
  refine pu_fn fn8 (by rfl) (by rfl) (by rfl) fun X hX hTb => ?_
  refine wct_region_seq (by simp) ?_
  refine wq rfl (opt_box_fz (by rfl) (by rfl) (by trivial)) ?_
  refine wq rfl qc ?_
  refine wot_nil ?_
  refine wct_region_seq (by simp) ?_
  refine wot_c hTb rfl (call_bin (by rfl) (by rfl)) (by exact Drs.nil) (pu10) (by exact Cl.v _) (by rfl) (by rfl) (by rfl) ?_
  refine wq rfl qa ?_
  refine wot_nil ?_
  (refine wct_assoc ?_)
  refine wct_region_seq (by simp) ?_
  refine wq rfl qm ?_
  refine wq rfl (opt_not (by rfl) (by rfl)) ?_
  refine wot_nil ?_
  refine wct_ifb_seq (by rfl) (by rfl) (fun c1 => ?_) (fun c1 => ?_)
  · (refine wct_assoc ?_)
    try simp only [Int.toNat_natCast] at c1
    exact absurd c1 (by decide)
  · (refine wct_skip_seq ?_)
    try simp only [Int.toNat_natCast] at c1
    refine wct_region_seq (by simp) ?_
    refine wot_o (x := Enc.tv (⟨L⟩ : Raw)) rfl (opt_as (by exact opt_load_fp_row (by rfl) (by rfl) (by rfl)) (by rfl)) (by rfl) (by rfl) (by rfl) ?_
    refine wot_ce hTb rfl (call_bin (by rfl) (by rfl)) (by refine Drs.cons (by exact Dr.cl (by exact Enc.cl _)) ?_; exact Drs.nil) (pu11 (L := L) hL) (by (rintro r ⟨x, rfl, h⟩; exact Enc.cl x)) (by rfl) (by rfl) (by rfl) ?_
    rintro r ⟨c, rfl, hf⟩
    refine wq rfl (opt_alloc (by rfl)) ?_
    refine wot_of0 rfl (by exact opt_store_row (by rfl) (by rfl) (by rfl) (by rfl) (by rfl) (by trivial) (by rfl) (by rfl) (by rfl)) (EffOk.pure hX) (by rfl) (by rfl) ?_
    refine wot_nil ?_
    refine wct_region_seq (by simp) ?_
    refine wot_o (x := Enc.tv c) rfl (opt_as (by exact opt_load_row (by rfl) (by rfl) (by rfl) (by rfl) (by rfl)) (by rfl)) (by rfl) (by rfl) (by rfl) ?_
    refine wot_ce hTb rfl (call_bin (by rfl) (by rfl)) (by refine Drs.cons (by exact Dr.cl (by exact Enc.cl _)) ?_; exact Drs.nil) (pu14 hf) (by (rintro r ⟨x, rfl, h⟩; exact Enc.cl x)) (by rfl) (by rfl) (by rfl) ?_
    rintro r ⟨y, rfl, hy⟩
    refine wq rfl (opt_alloc (by rfl)) ?_
    refine wot_of0 rfl (by exact opt_store_row (by rfl) (by rfl) (by rfl) (by rfl) (by rfl) (by trivial) (by rfl) (by rfl) (by rfl)) (EffOk.pure hX) (by rfl) (by rfl) ?_
    refine wot_nil ?_
    have hli := hy.li
    have hlo := hy.lo
    have hnb := hf.nb
    have hK := Nat.mod_lt bk hnb.1
    obtain ⟨hl1, hl2⟩ := oks_le hf hy.oks
    refine wct_region_seq (by simp) ?_
    refine wq rfl qm ?_
    refine wq rfl (opt_conv (by rfl) (by rfl) (convU8n (by omega)) (by rfl) (by rfl)) ?_
    refine wq rfl qF ?_
    refine wq rfl ql ?_
    refine wq rfl qn ?_
    refine wq rfl (by exact opt_remNN (by rfl) (by rfl) (by rfl) (by rfl) (by omega)) ?_
    refine wq rfl qa ?_
    refine wot_nil ?_
    obtain ⟨K, hKe⟩ : ∃ K, K = bk % c.b.length := ⟨_, rfl⟩
    rw [← hKe] at hK ⊢
    have hk1 : K < y.in_.length := by omega
    have hk2 : K < y.out.length := by omega
    have hA := at_le (k := K) hl1
    have hB := at_le (k := K) hl2
    refine wct_draw_seq (by kernel_rfl) (u := []) (by kernel_rfl) ?_
    refine tq rfl qF ?_
    refine tq rfl ql ?_
    refine tq rfl qm ?_
    refine tq rfl (by exact opt_slice_hi (by rfl) (by rfl) (by rfl) (by rfl) (by omega) (by rfl)) ?_
    refine tq rfl qF ?_
    refine tq rfl ql ?_
    refine wtt_o (x := Enc.tv (⟨y.in_.take K, y.out⟩ : Live)) rfl (opt_as (opt_build (by rfl) (by rfl) (by rfl) (by rfl)) (by rfl)) (by rfl) (by rfl) (by rfl) ?_
    refine tq rfl (opt_alloc (by rfl)) ?_
    refine wtt_of0 rfl (by exact opt_store_row (by rfl) (by rfl) (by rfl) (by rfl) (by rfl) (by trivial) (by rfl) (by rfl) (by rfl)) (EffOk.pure hX) (by rfl) (by rfl) ?_
    refine wtt_nil ?_
    refine ⟨trivial, ?_⟩
    refine wct_draw_seq (by kernel_rfl) (u := [(5, 3)]) (by kernel_rfl) ?_
    refine tq rfl (opt_litO_l (([] : List (List Int))) (by rfl) (by rfl) (by rfl) (by rfl) (by rfl) (by rfl) (by rfl) (by rfl) (by rfl) (by rfl)) ?_
    refine tq rfl qF ?_
    refine tq rfl ql ?_
    refine wtt_of rfl (by exact opt_append_l (by rfl) (by rfl) (by rfl) (by rfl) src_lst (by rfl) (by rfl) (by rfl) (by (simp only [List.length_append, List.length_cons, List.length_nil, List.length_take, List.length_drop]; omega)) (by rfl)) (EffOk.pure hX) (by rfl) (by rfl) (by rfl) ?_
    refine tq rfl qF ?_
    refine tq rfl ql ?_
    refine tq rfl (opt_build (by rfl) (by rfl) (by rfl) (by rfl)) ?_
    refine tq rfl (opt_alloc (by rfl)) ?_
    refine wtt_of0 rfl (by exact opt_store_row (by rfl) (by rfl) (by rfl) (by rfl) (by rfl) (by trivial) (by rfl) (by rfl) (by rfl)) (EffOk.pure hX) (by rfl) (by rfl) ?_
    refine wtt_nil ?_
    refine ⟨⟨(by exact chk_pt (t := 36) (by rfl) (by rfl) (by rfl) (by rfl) (by rfl) (by rfl) (by rfl) (by rfl) (by rfl)), trivial⟩, ?_⟩
    refine wct_ghost (E' := [(2, ti n), (7, tb true), (8, .pt 0 0 0), (9, .pt 1 0 0), (10, ti (K : Int)), (11, .pt 2 0 0), (12, .pt 4 0 0)]) (Th' := [⟨0, some (34, cls c)⟩, ⟨0, some (38, cls y)⟩, ⟨0, some (38, cls (⟨y.in_.take K, y.out⟩ : Live))⟩, rl 1 47 y.in_, ⟨0, some (38, [.own 3 1 1 0 y.in_.length y.in_.length, lst false y.out])⟩]) (fun T G p h => ⟨p, Rl.sub (F := [(2, ti n), (7, tb true), (8, .pt 0 0 0), (9, .pt 1 0 0), (10, ti (K : Int)), (11, .pt 2 0 0), (12, .pt 4 0 0)]) (show Rl X _ ([⟨0, some (34, cls c)⟩, ⟨0, some (38, cls y)⟩, ⟨0, some (38, cls (⟨y.in_.take K, y.out⟩ : Live))⟩, rl 1 47 y.in_, ⟨0, some (38, [.own 3 1 1 0 y.in_.length y.in_.length, lst false y.out])⟩]) T G p from h) (by exact ⟨rfl, rfl, rfl, rfl, rfl, rfl, rfl, trivial⟩)⟩) ?_
    refine wct_draw_seq (by kernel_rfl) (u := [(1, 9), (1, 15), (11, 9), (14, 9)]) (by kernel_rfl) ?_
    refine tq rfl qF ?_
    refine tq rfl ql ?_
    refine tq rfl qm ?_
    refine tq rfl (opt_litO_l (([] : List Int)) (by rfl) (by rfl) (by rfl) (by rfl) (by rfl) (by rfl) (by rfl) (by rfl) (by rfl) (by rfl)) ?_
    refine tq rfl qF ?_
    refine tq rfl ql ?_
    refine tq rfl qm ?_
    refine tq rfl (by exact opt_index_lstN (by rfl) (by rfl) (by rfl) (by rfl) (by omega) (by rfl)) ?_
    refine wtt_o (x := lst false (at' y.in_ K)) rfl (opt_as q1 (by rfl)) (by rfl) (by rfl) (by rfl) ?_
    refine wtt_of rfl (by exact opt_append_l (by rfl) (by rfl) (by rfl) (by rfl) src_lst (by rfl) (by rfl) (by rfl) (by (simp only [List.length_append, List.length_cons, List.length_nil, List.length_take, List.length_drop]; omega)) (by rfl)) (EffOk.pure hX) (by rfl) (by rfl) (by rfl) ?_
    refine tq rfl qF ?_
    refine tq rfl ql ?_
    refine tq rfl qm ?_
    refine tq rfl (by exact opt_index_lstN (by rfl) (by rfl) (by rfl) (by rfl) (by omega) (by rfl)) ?_
    refine wtt_o (x := lst false (at' y.in_ K)) rfl (opt_as q1 (by rfl)) (by rfl) (by rfl) (by rfl) ?_
    refine wtt_of rfl (by exact opt_append_l (by rfl) (by rfl) (by rfl) (by rfl) src_lst (by rfl) (by rfl) (by rfl) (by (simp only [List.length_append, List.length_cons, List.length_nil, List.length_take, List.length_drop]; omega)) (by rfl)) (EffOk.pure hX) (by rfl) (by rfl) (by rfl) ?_
    refine tq rfl (by exact opt_index_lN (by rfl) (by rfl) (by rfl) (by rfl) (by rfl) (by omega)) ?_
    refine wtt_of0 rfl (opt_store_h0 (by rfl) (by rfl) (by rfl) (by rfl) (by rfl) (by trivial) (by rfl) (by rfl) hk1) (EffOk.pure hX) (by rfl) (by rfl) ?_
    refine wtt_nil ?_
    refine ⟨⟨(by exact chk_pt (t := 36) (by rfl) (by rfl) (by rfl) (by rfl) (by rfl) (by rfl) (by rfl) (by rfl) (by rfl)), (by exact chk_pt (t := 36) (by rfl) (by rfl) (by rfl) (by rfl) (by rfl) (by rfl) (by rfl) (by rfl) (by rfl)), (by exact chk_pt (t := 36) (by rfl) (by rfl) (by rfl) (by rfl) (by rfl) (by rfl) (by rfl) (by rfl) (by rfl)), (by exact ChkT.fp (by rfl) (by rfl) (by rfl) (by rfl) (by rfl)), trivial⟩, ?_⟩
    refine wct_ghost (g_freezecell (i := 5) (j := 3) (o := K) rfl rfl (by decide) (by rw [hC, List.getElem?_set, if_pos rfl, if_pos (by rw [lflat_len]; exact hk1)]; rfl) (by rw [hX]; exact Nat.zero_le _) (fz_own (xs := at' y.in_ K ++ at' y.in_ K) rfl rfl (by rw [List.length_append]; omega) (Nat.le_refl _))) ?_
    rw [hC_fill hk1]
    refine wct_ghost (g_freezecell (i := 3) (j := 4) (o := 0) rfl rfl (by decide) rfl (by rw [hX]; exact Nat.zero_le _) (fz_own (xs := y.in_.set K (at' y.in_ K ++ at' y.in_ K)) rfl (List.length_set ..).symm (by rw [List.length_set]; omega) (by rw [List.length_set]; exact Nat.le_refl _))) ?_
    refine wct_ghost (E' := [(2, ti n), (7, tb true), (8, .pt 0 0 0), (9, .pt 1 0 0), (10, ti (K : Int)), (11, .pt 2 0 0), (12, .pt 4 0 0)]) (Th' := [⟨0, some (34, cls c)⟩, ⟨0, some (38, cls y)⟩, ⟨0, some (38, cls (⟨y.in_.take K, y.out⟩ : Live))⟩, ⟨1, none⟩, ⟨0, some (38, cls (⟨y.in_.set K (at' y.in_ K ++ at' y.in_ K), y.out⟩ : Live))⟩, ⟨2, none⟩]) (fun T G p h => ⟨p, Rl.sub (F := [(2, ti n), (7, tb true), (8, .pt 0 0 0), (9, .pt 1 0 0), (10, ti (K : Int)), (11, .pt 2 0 0), (12, .pt 4 0 0)]) (show Rl X _ ([⟨0, some (34, cls c)⟩, ⟨0, some (38, cls y)⟩, ⟨0, some (38, cls (⟨y.in_.take K, y.out⟩ : Live))⟩, ⟨1, none⟩, ⟨0, some (38, cls (⟨y.in_.set K (at' y.in_ K ++ at' y.in_ K), y.out⟩ : Live))⟩, ⟨2, none⟩]) T G p from h) (by exact ⟨rfl, rfl, rfl, rfl, rfl, rfl, rfl, trivial⟩)⟩) ?_
    refine wct_draw_seq (by kernel_rfl) (u := [(1, 5)]) (by kernel_rfl) ?_
    refine tq rfl qF ?_
    refine tq rfl ql ?_
    refine tq rfl (opt_litO_l (([] : List (List Int))) (by rfl) (by rfl) (by rfl) (by rfl) (by rfl) (by rfl) (by rfl) (by rfl) (by rfl) (by rfl)) ?_
    refine tq rfl qF ?_
    refine tq rfl ql ?_
    refine wtt_of rfl (by exact opt_append_l (by rfl) (by rfl) (by rfl) (by rfl) src_lst (by rfl) (by rfl) (by rfl) (by (simp only [List.length_append, List.length_cons, List.length_nil, List.length_take, List.length_drop]; omega)) (by rfl)) (EffOk.pure hX) (by rfl) (by rfl) (by rfl) ?_
    refine tq rfl (opt_build (by rfl) (by rfl) (by rfl) (by rfl)) ?_
    refine tq rfl (opt_alloc (by rfl)) ?_
    refine wtt_of0 rfl (by exact opt_store_row (by rfl) (by rfl) (by rfl) (by rfl) (by rfl) (by trivial) (by rfl) (by rfl) (by rfl)) (EffOk.pure hX) (by rfl) (by rfl) ?_
    refine wtt_nil ?_
    refine ⟨⟨(by exact chk_pt (t := 36) (by rfl) (by rfl) (by rfl) (by rfl) (by rfl) (by rfl) (by rfl) (by rfl) (by rfl)), trivial⟩, ?_⟩
    refine wct_ghost (E' := [(2, ti n), (7, tb true), (8, .pt 0 0 0), (9, .pt 1 0 0), (10, ti (K : Int)), (11, .pt 2 0 0), (12, .pt 4 0 0), (13, .pt 7 0 0)]) (Th' := [⟨0, some (34, cls c)⟩, ⟨0, some (38, cls y)⟩, ⟨0, some (38, cls (⟨y.in_.take K, y.out⟩ : Live))⟩, ⟨1, none⟩, ⟨0, some (38, cls (⟨y.in_.set K (at' y.in_ K ++ at' y.in_ K), y.out⟩ : Live))⟩, ⟨2, none⟩, rl 1 47 y.out, ⟨0, some (38, [lst false y.in_, .own 6 1 1 0 y.out.length y.out.length])⟩]) (fun T G p h => ⟨p, Rl.sub (F := [(2, ti n), (7, tb true), (8, .pt 0 0 0), (9, .pt 1 0 0), (10, ti (K : Int)), (11, .pt 2 0 0), (12, .pt 4 0 0), (13, .pt 7 0 0)]) (show Rl X _ ([⟨0, some (34, cls c)⟩, ⟨0, some (38, cls y)⟩, ⟨0, some (38, cls (⟨y.in_.take K, y.out⟩ : Live))⟩, ⟨1, none⟩, ⟨0, some (38, cls (⟨y.in_.set K (at' y.in_ K ++ at' y.in_ K), y.out⟩ : Live))⟩, ⟨2, none⟩, rl 1 47 y.out, ⟨0, some (38, [lst false y.in_, .own 6 1 1 0 y.out.length y.out.length])⟩]) T G p from h) (by exact ⟨rfl, rfl, rfl, rfl, rfl, rfl, rfl, rfl, trivial⟩)⟩) ?_
    refine wct_draw_seq (by kernel_rfl) (u := [(1, 9), (1, 12)]) (by kernel_rfl) ?_
    refine tq rfl qF ?_
    refine tq rfl ql ?_
    refine tq rfl qm ?_
    refine tq rfl (opt_litO_l (([] : List Int)) (by rfl) (by rfl) (by rfl) (by rfl) (by rfl) (by rfl) (by rfl) (by rfl) (by rfl) (by rfl)) ?_
    refine tq rfl qF ?_
    refine tq rfl ql ?_
    refine tq rfl qm ?_
    refine tq rfl (by exact opt_index_lstN (by rfl) (by rfl) (by rfl) (by rfl) (by omega) (by rfl)) ?_
    refine wtt_o (x := lst false (at' y.out K)) rfl (opt_as q1 (by rfl)) (by rfl) (by rfl) (by rfl) ?_
    refine wtt_of rfl (by exact opt_append_l (by rfl) (by rfl) (by rfl) (by rfl) src_lst (by rfl) (by rfl) (by rfl) (by (simp only [List.length_append, List.length_cons, List.length_nil, List.length_take, List.length_drop]; omega)) (by rfl)) (EffOk.pure hX) (by rfl) (by rfl) (by rfl) ?_
    refine tq rfl qm ?_
    refine tq rfl (opt_lit_l ([n]) (by rfl) (by rfl) (by rfl) (by rfl) (by rfl) (by rfl) (by rfl) (by rfl) (by rfl) (by rfl)) ?_
    refine wtt_of rfl (by exact opt_append_l (by rfl) (by rfl) (by rfl) (by rfl) src_lst (by rfl) (by rfl) (by rfl) (by (simp only [List.length_append, List.length_cons, List.length_nil, List.length_take, List.length_drop]; omega)) (by rfl)) (EffOk.pure hX) (by rfl) (by rfl) (by rfl) ?_
    refine tq rfl (by exact opt_index_lN (by rfl) (by rfl) (by rfl) (by rfl) (by rfl) (by omega)) ?_
    refine wtt_of0 rfl (opt_store_h0 (by rfl) (by rfl) (by rfl) (by rfl) (by rfl) (by trivial) (by rfl) (by rfl) hk2) (EffOk.pure hX) (by rfl) (by rfl) ?_
    refine wtt_nil ?_
    refine ⟨⟨(by exact chk_pt (t := 36) (by rfl) (by rfl) (by rfl) (by rfl) (by rfl) (by rfl) (by rfl) (by rfl) (by rfl)), (by exact chk_pt (t := 36) (by rfl) (by rfl) (by rfl) (by rfl) (by rfl) (by rfl) (by rfl) (by rfl) (by rfl)), trivial⟩, ?_⟩
    (refine wct_assoc ?_)
    refine wct_ghost (g_freezecell (i := 8) (j := 6) (o := K) rfl rfl (by decide) (by rw [hC, List.getElem?_set, if_pos rfl, if_pos (by rw [lflat_len]; exact hk2)]; rfl) (by rw [hX]; exact Nat.zero_le _) (fz_own (xs := at' y.out K ++ [n]) rfl rfl (by rw [List.length_append, List.length_singleton]; omega) (Nat.le_refl _))) ?_
    rw [hC_fill hk2]
    refine wct_cut1 (fun (b1 : Bool) => (b1 = false → ¬ (0 ≤ n ∧ n < c.regs))) (fun (b1 : Bool) => [(2, ti n), (7, tb true), (8, .pt 0 0 0), (9, .pt 1 0 0), (10, ti (K : Int)), (11, .pt 2 0 0), (12, .pt 4 0 0), (13, .pt 7 0 0), (86, tb b1)]) (fun (b1 : Bool) => [⟨0, some (34, cls c)⟩, ⟨0, some (38, cls y)⟩, ⟨0, some (38, cls (⟨y.in_.take K, y.out⟩ : Live))⟩, ⟨1, none⟩, ⟨0, some (38, cls (⟨y.in_.set K (at' y.in_ K ++ at' y.in_ K), y.out⟩ : Live))⟩, ⟨2, none⟩, rl 1 47 (y.out.set K (at' y.out K ++ [n])), ⟨0, some (38, [lst false y.in_, .own 6 1 1 0 y.out.length y.out.length])⟩, ⟨2, none⟩]) ?_ ?_
    · (skip)
      refine wct_region (by simp) ?_
      refine wq rfl qm ?_
      refine wq rfl qk ?_
      refine wq rfl qm ?_
      refine wot_split (d := 81) (by rfl) (fun g3 => ?_) (fun g3 => ?_)
      · refine wot_og rfl qm (by rfl) (by rfl) (by rfl) (by rfl) (by rfl) (by rfl) ?_
        refine wot_og rfl qF (by rfl) (by rfl) (by rfl) (by rfl) (by rfl) (by rfl) ?_
        refine wot_og rfl ql (by rfl) (by rfl) (by rfl) (by rfl) (by rfl) (by rfl) ?_
        refine wot_og rfl qk (by rfl) (by rfl) (by rfl) (by rfl) (by rfl) (by rfl) ?_
        refine wq rfl (by exact opt_pick_t (by rfl) (by rfl) (by rfl) (by rfl) (by rfl) (by rfl) (by rfl)) ?_
        refine wot_nil ?_
        (refine qst_cut ?_)
        refine cutmk (decide (n < c.regs)) ?_ (by exact ⟨rfl, rfl, rfl, rfl, rfl, rfl, rfl, rfl, rfl, trivial⟩) (by rfl)
        try dsimp only
        intro h; have h := of_decide_eq_false h; omega
      · refine wot_sg (by rfl) (by rfl) (by rfl) (by rfl) (by rfl) (by rfl) ?_
        refine wot_sg (by rfl) (by rfl) (by rfl) (by rfl) (by rfl) (by rfl) ?_
        refine wot_sg (by rfl) (by rfl) (by rfl) (by rfl) (by rfl) (by rfl) ?_
        refine wot_sg (by rfl) (by rfl) (by rfl) (by rfl) (by rfl) (by rfl) ?_
        refine wq rfl (by exact opt_pick_f (by rfl) (by rfl) (by rfl) (by rfl) (by rfl) (by rfl) (by rfl)) ?_
        refine wot_nil ?_
        (refine qst_cut ?_)
        refine cutmk false ?_ (by exact ⟨rfl, rfl, rfl, rfl, rfl, rfl, rfl, rfl, rfl, trivial⟩) (by rfl)
        try dsimp only
        intro _; omega
    rintro b1 hb1
    refine wct_cut1 (fun (q : List Int) => ¬ LiOk c.regs q) (fun (q : List Int) => [(2, ti n), (7, tb true), (8, .pt 0 0 0), (9, .pt 1 0 0), (10, ti (K : Int)), (11, .pt 2 0 0), (12, .pt 4 0 0), (13, .pt 7 0 0)]) (fun (q : List Int) => [⟨0, some (34, cls c)⟩, ⟨0, some (38, cls y)⟩, ⟨0, some (38, cls (⟨y.in_.take K, y.out⟩ : Live))⟩, ⟨1, none⟩, ⟨0, some (38, cls (⟨y.in_.set K (at' y.in_ K ++ at' y.in_ K), y.out⟩ : Live))⟩, ⟨2, none⟩, rl 1 47 (y.out.set K q), ⟨0, some (38, [lst false y.in_, .own 6 1 1 0 y.out.length y.out.length])⟩, ⟨2, none⟩]) ?_ ?_
    · (skip)
      refine wct_ifb (by rfl) (by rfl) (fun c2 => ?_) (fun c2 => ?_)
      · (skip)
        try simp only [Int.toNat_natCast] at c2
        refine wct_region (by simp) ?_
        refine wq rfl qF ?_
        refine wq rfl ql ?_
        refine wq rfl qm ?_
        refine wq rfl qm ?_
        refine wq rfl qm ?_
        refine wq rfl (opt_lit_l ([n, n]) (by rfl) (by rfl) (by rfl) (by rfl) (by rfl) (by rfl) (by rfl) (by rfl) (by rfl) (by rfl)) ?_
        refine wq rfl (by exact opt_index_lN (by rfl) (by rfl) (by rfl) (by rfl) (by rfl) (by omega)) ?_
        refine wot_of0 rfl (by exact opt_store_l (by rfl) (by rfl) (by rfl) (by rfl) (by rfl) (by trivial) (by rfl) (by (simp only [List.length_append, List.length_cons, List.length_nil, List.length_take, List.length_drop, List.length_set, List.length_replicate]; omega)) (by rfl) (by rfl)) (EffOk.pure hX) (by rfl) (by rfl) ?_
        refine wot_nil ?_
        (refine qst_cut ?_)
        refine cutmk ([n, n]) ?_ (by exact ⟨rfl, rfl, rfl, rfl, rfl, rfl, rfl, rfl, trivial⟩) (by rw [List.set_set]; rfl)
        try dsimp only
        exact not_pair
      · (refine wct_skip ?_; refine qst_cut ?_)
        try simp only [Int.toNat_natCast] at c2
        refine cutmk (at' y.out K ++ [n]) ?_ (by exact ⟨rfl, rfl, rfl, rfl, rfl, rfl, rfl, rfl, trivial⟩) (by rfl)
        try dsimp only
        exact not_snoc (hb1 (by simpa using c2))
    rintro q hq
    refine wct_ghost (g_freezecell (i := 6) (j := 7) (o := 1) rfl rfl (by decide) rfl (by rw [hX]; exact Nat.zero_le _) (fz_own (xs := y.out.set K q) rfl (List.length_set ..).symm (by rw [List.length_set]; omega) (by rw [List.length_set]; exact Nat.le_refl _))) ?_
    refine wct_region_seq (by simp) ?_
    refine wot_o (x := Enc.tv c) rfl (opt_as (by exact opt_load_row (by rfl) (by rfl) (by rfl) (by rfl) (by rfl)) (by rfl)) (by rfl) (by rfl) (by rfl) ?_
    refine wot_o (x := Enc.tv (⟨y.in_.take K, y.out⟩ : Live)) rfl (opt_as (by exact opt_load_row (by rfl) (by rfl) (by rfl) (by rfl) (by rfl)) (by rfl)) (by rfl) (by rfl) (by rfl) ?_
    refine wot_c hTb rfl (call_bin (by rfl) (by rfl)) (by refine Drs.cons (by exact Dr.cl (by exact Enc.cl _)) ?_; refine Drs.cons (by exact Dr.cl (by exact Enc.cl _)) ?_; exact Drs.nil) (pu17no hf (by rw [List.length_take]; omega) (by show y.out.length ≤ _; omega) (fun h => by have := h.1; rw [List.length_take] at this; omega)) (by exact Cl.v _) (by rfl) (by rfl) (by rfl) ?_
    refine wq rfl qk ?_
    refine wq rfl qm ?_
    refine wot_og rfl qF (by rfl) (by rfl) (by rfl) (by rfl) (by rfl) (by rfl) ?_
    refine wot_og rfl ql (by rfl) (by rfl) (by rfl) (by rfl) (by rfl) (by rfl) ?_
    refine wot_og rfl qm (by rfl) (by rfl) (by rfl) (by rfl) (by rfl) (by rfl) ?_
    refine wot_og rfl (by exact opt_index_lstN (by rfl) (by rfl) (by rfl) (by rfl) (by omega) (by rfl)) (by rfl) (by rfl) (by rfl) (by rfl) (by rfl) (by rfl) ?_
    refine wot_og (x := lst false (at' y.in_ K)) rfl (opt_as q1 (by rfl)) (by rfl) (by rfl) (by rfl) (by rfl) (by rfl) (by rfl) ?_
    refine wot_og rfl qn (by rfl) (by rfl) (by rfl) (by rfl) (by rfl) (by rfl) ?_
    refine wot_og rfl qk (by rfl) (by rfl) (by rfl) (by rfl) (by rfl) (by rfl) ?_
    refine wot_og rfl qm (by rfl) (by rfl) (by rfl) (by rfl) (by rfl) (by rfl) ?_
    refine wot_split (d := 106) (by rfl) (fun g13 => ?_) (fun g13 => ?_)
    · refine wot_sg (by rfl) (by rfl) (by rfl) (by rfl) (by rfl) (by rfl) ?_
      refine wot_sg (by rfl) (by rfl) (by rfl) (by rfl) (by rfl) (by rfl) ?_
      refine wot_sg (by rfl) (by rfl) (by rfl) (by rfl) (by rfl) (by rfl) ?_
      refine wot_sg (by rfl) (by rfl) (by rfl) (by rfl) (by rfl) (by rfl) ?_
      refine wot_og rfl (by exact opt_pick_t (by rfl) (by rfl) (by rfl) (by rfl) (by rfl) (by rfl) (by rfl)) (by rfl) (by rfl) (by rfl) (by rfl) (by rfl) (by rfl) ?_
      refine wq rfl (by exact opt_pick_t (by rfl) (by rfl) (by rfl) (by rfl) (by rfl) (by rfl) (by rfl)) ?_
      refine wq rfl qm ?_
      refine wot_og (x := Enc.tv c) rfl (opt_as (by exact opt_load_row (by rfl) (by rfl) (by rfl) (by rfl) (by rfl)) (by rfl)) (by rfl) (by rfl) (by rfl) (by rfl) (by rfl) (by rfl) ?_
      refine wot_og (x := Enc.tv (⟨y.in_, y.out.set K q⟩ : Live)) rfl (opt_as (by exact opt_load_row (by rfl) (by rfl) (by rfl) (by rfl) (by rfl)) (by rfl)) (by rfl) (by rfl) (by rfl) (by rfl) (by rfl) (by rfl) ?_
      refine wot_cg hTb rfl (call_bin (by rfl) (by rfl)) (by refine Drs.cons (by exact Dr.cl (by exact Enc.cl _)) ?_; refine Drs.cons (by exact Dr.cl (by exact Enc.cl _)) ?_; exact Drs.nil) (pu17no hf (by show y.in_.length ≤ _; omega) (by rw [List.length_set]; omega) (bad_out hK hlo hq)) (by exact Cl.v _) (by rfl) (by rfl) (by rfl) (by rfl) (by rfl) (by rfl) ?_
      refine wot_og rfl qk (by rfl) (by rfl) (by rfl) (by rfl) (by rfl) (by rfl) ?_
      refine wq rfl (by exact opt_pick_t (by rfl) (by rfl) (by rfl) (by rfl) (by rfl) (by rfl) (by rfl)) ?_
      refine wq rfl qm ?_
      refine wot_og (x := Enc.tv c) rfl (opt_as (by exact opt_load_row (by rfl) (by rfl) (by rfl) (by rfl) (by rfl)) (by rfl)) (by rfl) (by rfl) (by rfl) (by rfl) (by rfl) (by rfl) ?_
      refine wot_og (x := Enc.tv y) rfl (opt_as (by exact opt_load_row (by rfl) (by rfl) (by rfl) (by rfl) (by rfl)) (by rfl)) (by rfl) (by rfl) (by rfl) (by rfl) (by rfl) (by rfl) ?_
      refine wot_cg hTb rfl (call_bin (by rfl) (by rfl)) (by refine Drs.cons (by exact Dr.cl (by exact Enc.cl _)) ?_; refine Drs.cons (by exact Dr.cl (by exact Enc.cl _)) ?_; exact Drs.nil) (pu17yes hf (by omega) (by omega) hy.closed) (by exact Cl.v _) (by rfl) (by rfl) (by rfl) (by rfl) (by rfl) (by rfl) ?_
      refine wot_og rfl qk (by rfl) (by rfl) (by rfl) (by rfl) (by rfl) (by rfl) ?_
      refine wq rfl (by exact opt_pick_t (by rfl) (by rfl) (by rfl) (by rfl) (by rfl) (by rfl) (by rfl)) ?_
      refine wq rfl qm ?_
      refine wot_og rfl qm (by rfl) (by rfl) (by rfl) (by rfl) (by rfl) (by rfl) ?_
      refine wq rfl (by exact opt_pick_t (by rfl) (by rfl) (by rfl) (by rfl) (by rfl) (by rfl) (by rfl)) ?_
      refine wq rfl qa ?_
      refine wot_nil ?_
      (refine wct_ret ?_)
      refine fin_1c (by simp) rfl (by rfl) (by exact Cl.v _) ?_
      rfl
    · refine wot_og (x := Enc.tv c) rfl (opt_as (by exact opt_load_row (by rfl) (by rfl) (by rfl) (by rfl) (by rfl)) (by rfl)) (by rfl) (by rfl) (by rfl) (by rfl) (by rfl) (by rfl) ?_
      refine wot_og (x := Enc.tv (⟨y.in_.set K (at' y.in_ K ++ at' y.in_ K), y.out⟩ : Live)) rfl (opt_as (by exact opt_load_row (by rfl) (by rfl) (by rfl) (by rfl) (by rfl)) (by rfl)) (by rfl) (by rfl) (by rfl) (by rfl) (by rfl) (by rfl) ?_
      refine wot_cg hTb rfl (call_bin (by rfl) (by rfl)) (by refine Drs.cons (by exact Dr.cl (by exact Enc.cl _)) ?_; refine Drs.cons (by exact Dr.cl (by exact Enc.cl _)) ?_; exact Drs.nil) (pu17no hf (by rw [List.length_set]; omega) (by show y.out.length ≤ _; omega) (bad_in hK hli (not_dup (by omega)))) (by exact Cl.v _) (by rfl) (by rfl) (by rfl) (by rfl) (by rfl) (by rfl) ?_
      refine wot_og rfl qk (by rfl) (by rfl) (by rfl) (by rfl) (by rfl) (by rfl) ?_
      refine wot_og rfl (by exact opt_pick_f (by rfl) (by rfl) (by rfl) (by rfl) (by rfl) (by rfl) (by rfl)) (by rfl) (by rfl) (by rfl) (by rfl) (by rfl) (by rfl) ?_
      refine wq rfl (by exact opt_pick_t (by rfl) (by rfl) (by rfl) (by rfl) (by rfl) (by rfl) (by rfl)) ?_
      refine wq rfl qm ?_
      refine wot_og (x := Enc.tv c) rfl (opt_as (by exact opt_load_row (by rfl) (by rfl) (by rfl) (by rfl) (by rfl)) (by rfl)) (by rfl) (by rfl) (by rfl) (by rfl) (by rfl) (by rfl) ?_
      refine wot_og (x := Enc.tv (⟨y.in_, y.out.set K q⟩ : Live)) rfl (opt_as (by exact opt_load_row (by rfl) (by rfl) (by rfl) (by rfl) (by rfl)) (by rfl)) (by rfl) (by rfl) (by rfl) (by rfl) (by rfl) (by rfl) ?_
      refine wot_cg hTb rfl (call_bin (by rfl) (by rfl)) (by refine Drs.cons (by exact Dr.cl (by exact Enc.cl _)) ?_; refine Drs.cons (by exact Dr.cl (by exact Enc.cl _)) ?_; exact Drs.nil) (pu17no hf (by show y.in_.length ≤ _; omega) (by rw [List.length_set]; omega) (bad_out hK hlo hq)) (by exact Cl.v _) (by rfl) (by rfl) (by rfl) (by rfl) (by rfl) (by rfl) ?_
      refine wot_og rfl qk (by rfl) (by rfl) (by rfl) (by rfl) (by rfl) (by rfl) ?_
      refine wq rfl (by exact opt_pick_t (by rfl) (by rfl) (by rfl) (by rfl) (by rfl) (by rfl) (by rfl)) ?_
      refine wq rfl qm ?_
      refine wot_og (x := Enc.tv c) rfl (opt_as (by exact opt_load_row (by rfl) (by rfl) (by rfl) (by rfl) (by rfl)) (by rfl)) (by rfl) (by rfl) (by rfl) (by rfl) (by rfl) (by rfl) ?_
      refine wot_og (x := Enc.tv y) rfl (opt_as (by exact opt_load_row (by rfl) (by rfl) (by rfl) (by rfl) (by rfl)) (by rfl)) (by rfl) (by rfl) (by rfl) (by rfl) (by rfl) (by rfl) ?_
      refine wot_cg hTb rfl (call_bin (by rfl) (by rfl)) (by refine Drs.cons (by exact Dr.cl (by exact Enc.cl _)) ?_; refine Drs.cons (by exact Dr.cl (by exact Enc.cl _)) ?_; exact Drs.nil) (pu17yes hf (by omega) (by omega) hy.closed) (by exact Cl.v _) (by rfl) (by rfl) (by rfl) (by rfl) (by rfl) (by rfl) ?_
      refine wot_og rfl qk (by rfl) (by rfl) (by rfl) (by rfl) (by rfl) (by rfl) ?_
      refine wq rfl (by exact opt_pick_t (by rfl) (by rfl) (by rfl) (by rfl) (by rfl) (by rfl) (by rfl)) ?_
      refine wq rfl qm ?_
      refine wot_og rfl qm (by rfl) (by rfl) (by rfl) (by rfl) (by rfl) (by rfl) ?_
      refine wq rfl (by exact opt_pick_t (by rfl) (by rfl) (by rfl) (by rfl) (by rfl) (by rfl) (by rfl)) ?_
      refine wq rfl qa ?_
      refine wot_nil ?_
      (refine wct_ret ?_)
      refine fin_1c (by simp) rfl (by rfl) (by exact Cl.v _) ?_
      rfl
end Go.Ab
