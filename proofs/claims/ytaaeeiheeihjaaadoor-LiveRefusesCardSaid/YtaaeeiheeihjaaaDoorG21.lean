/- The road to a card of this seat: G21. Each theorem holds for every input that its own premises speak of. -/
import Derived.Test.YtaaeeiheeihjaaaDoorG4
import Derived.Test.YtaaeeiheeihjaaaDoorG20
set_option linter.all false
namespace Go.Ab
open Go.Proofs
theorem fold_congr {f g : Int → Nat → Int} : ∀ {l : List Nat} {a : Int}, (∀ i ∈ l, ∀ m, f m i = g m i) → l.foldl f a = l.foldl g a
  | [], a, _ => rfl
  | i :: l, a, h => by rw [List.foldl_cons, List.foldl_cons, h i (by simp), fold_congr fun j hj => h j (by simp [hj])]
def sizeF (is : List Inst) (s : BS) (j : Nat) : Int := ((listB (withB (atB is s (j + 1)) (dfn (at' is j)))).length : Int)
theorem press_back {c : Code} (hf : Fit c) {b : Nat} (hb : b < c.b.length) {l : List Int} (hl : LiOk c.regs l) (a : Int) : backM (sizeF (at' c.b b).i (ofB l)) (at' c.b b).i.length a 0 = (List.range (at' c.b b).i.length).foldl (fun m i => max m ((withI (atI (at' c.b b).i l (i + 1)) (dfn (at' (at' c.b b).i i))).length : Int)) a := by
  rw [backM_zero]
  refine fold_congr fun i hi m => ?_
  have hm : at' c.b b ∈ c.b := at_mem' hb
  have hi' : i < (at' c.b b).i.length := List.mem_range.1 hi
  have hd := hf.rd _ hm _ (at_mem' hi')
  have hA : LiOk c.regs (atI (at' c.b b).i l (i + 1)) := hl.at fun i hi => (hf.rd _ hm i hi).2.1
  unfold sizeF
  rw [atB_of (hf.u hb).1 (hl.lt hf.rg.2), size_with (hA.w hf.rg.2) (by have := hf.rg.2; omega)]
theorem pu19 {c : Code} {x : Live} (hf : Fit c) (hk : LiOks c x) : Pu Tryd.prog 19 [Enc.tv c, Enc.tv x] (Eq (ti (press c x))) := by
  have hnb := hf.nb
  have hrl := reachL_len c
  have hli := hk.li
  have hlo := hk.lo
  have hrg := hf.rg
  refine pu_fn fn19 (by rfl) (by rfl) (by rfl) fun X hX hTb => ?_
  refine wct_region_seq (by simp) ?_
  refine wot_o rfl (opt_box_fz (by rfl) (by rfl) (by trivial)) (by rfl) (by rfl) (by rfl) ?_
  refine wot_o rfl (opt_box_fz (by rfl) (by rfl) (by trivial)) (by rfl) (by rfl) (by rfl) ?_
  refine wot_o rfl (opt_assign_c (by rfl)) (by rfl) (by rfl) (by rfl) ?_
  refine wot_nil ?_
  refine wct_region_seq (by simp) ?_
  refine wot_o rfl (opt_alloc (by rfl)) (by rfl) (by rfl) (by rfl) ?_
  refine wot_of0 rfl (by exact opt_store_row (by rfl) (by rfl) (by rfl) (by rfl) (by rfl) (by trivial) (by rfl) (by rfl) (by rfl)) (EffOk.pure hX) (by rfl) (by rfl) ?_
  refine wot_nil ?_
  (refine wct_assoc ?_)
  refine wct_region_seq (by simp) ?_
  refine wot_o rfl (by exact opt_load_fp_row (by rfl) (by rfl) (by rfl)) (by rfl) (by rfl) (by rfl) ?_
  refine wot_c hTb rfl (call_bin (by rfl) (by rfl)) (by refine Drs.cons (by exact Dr.cl (by exact Cl.agg (cls_cl _))) ?_; exact Drs.nil) (pu43 hf) (by exact lst_cl _) (by rfl) (by rfl) (by rfl) ?_
  refine wot_o rfl (by exact opt_len_fz (by rfl) (by rfl) (by rfl)) (by rfl) (by rfl) (by rfl) ?_
  refine wot_o rfl (opt_move_c (by rfl)) (by rfl) (by rfl) (by rfl) ?_
  refine wot_nil ?_
  refine wct_loop2 (fun (k : Nat) (m : Int) => k ≤ c.b.length ∧ m = (List.range k).foldl (pressB c x) 0) (fun (k : Nat) (m : Int) => [(2, .fp false (cls c) 0), (3, .fp false (cls x) 0), (5, .pt 0 0 0), (13, lst false (reachL c)), (14, ti ((reachL c).length : Int)), (15, ti (k : Int))]) (fun (k : Nat) (m : Int) => [rl 0 3 [m]]) (fun (k : Nat) (m : Int) => c.b.length - k) 0 0 (by exact ⟨rfl, rfl, rfl, rfl, rfl, rfl, trivial⟩) (by rfl) ?_ ?_
  · exact ⟨by omega, rfl⟩
  rintro k m ⟨hkn, hm⟩
  refine wct_region_seq (by simp) ?_
  refine wot_o rfl (opt_cmp (by rfl) (by rfl) (by rfl) (by rfl) (by rfl)) (by rfl) (by rfl) (by rfl) ?_
  refine wot_nil ?_
  refine wct_if_seq (by rfl) (by rfl) (fun c1 => ?_) (fun c1 => ?_)
  · (refine wct_skip_seq ?_; refine wct_block_sq ?_)
    try simp only [Int.toNat_natCast] at c1
    refine wct_region_seq (by simp) ?_
    refine wot_o rfl (opt_move (by rfl) (by rfl)) (by rfl) (by rfl) (by rfl) ?_
    refine wot_o rfl (by exact opt_index_lstN (by rfl) (by rfl) (by rfl) (by rfl) (by omega) (by rfl)) (by rfl) (by rfl) (by rfl) ?_
    refine wot_o rfl (by exact opt_load_fp_1 (by rfl) (by rfl) (by rfl)) (by rfl) (by rfl) (by rfl) ?_
    refine wot_o rfl (opt_assign (by rfl) (by rfl)) (by rfl) (by rfl) (by rfl) ?_
    refine wot_o rfl (opt_assign (by rfl) (by rfl)) (by rfl) (by rfl) (by rfl) ?_
    refine wot_nil ?_
    (refine wct_assoc ?_)
    refine wct_region_seq (by simp) ?_
    refine wot_o rfl (opt_move (by rfl) (by rfl)) (by rfl) (by rfl) (by rfl) ?_
    refine wot_o rfl (opt_not (by rfl) (by rfl)) (by rfl) (by rfl) (by rfl) ?_
    refine wot_nil ?_
    refine wct_ifb_seq (by rfl) (by rfl) (fun c2 => ?_) (fun c2 => ?_)
    · (refine wct_exit_seq ?_; refine qbt_same ?_; refine qst_wct ?_)
      try simp only [Int.toNat_natCast] at c2
      refine wct_ghost (g_pop (F := [(2, .fp false (cls c) 0), (3, .fp false (cls x) 0), (5, .pt 0 0 0), (13, lst false (reachL c)), (14, ti ((reachL c).length : Int)), (15, ti (k : Int))]) (Th1 := [⟨0, some (3, _)⟩]) (by rfl) (by (rw [hX]; exact Nat.zero_le _)) (by exact ⟨rfl, rfl, rfl, rfl, rfl, rfl, trivial⟩) (by refine ⟨by exact Lo.cl (Cl.fp (cls_cl _)), ?_⟩; refine ⟨by exact Lo.cl (Cl.fp (cls_cl _)), ?_⟩; refine ⟨by exact Lo.pt (by rfl), ?_⟩; refine ⟨by exact Lo.cl (lst_cl _), ?_⟩; refine ⟨by exact Lo.cl (Cl.v _), ?_⟩; refine ⟨by exact Lo.cl (Cl.v _), ?_⟩; exact trivial) (by refine ⟨by (exact lo_all rfl), ?_⟩; exact trivial)) ?_
      refine wct_region (by simp) ?_
      refine wot_o rfl (opt_add (by rfl) (by rfl) (by rfl) (by rfl) (by constructor <;> omega)) (by rfl) (by rfl) (by rfl) ?_
      refine wot_o rfl (opt_move (by rfl) (by rfl)) (by rfl) (by rfl) (by rfl) ?_
      refine wot_nil ?_
      (refine qst_loop ?_)
      refine rnd (k + 1, m) (by (try simp only); omega) ?_ (by exact ⟨rfl, rfl, rfl, rfl, rfl, rfl, trivial⟩) (by rfl)
      try dsimp only
      refine ⟨by omega, ?_⟩
      have hre : ¬ at' (reachL c) k = true := by simpa using c2
      rw [List.range_succ, List.foldl_append, ← hm]
      simp only [List.foldl_cons, List.foldl_nil, pressB, if_neg hre]
    · (refine wct_skip_seq ?_)
      try simp only [Int.toNat_natCast] at c2
      have hb : k < c.b.length := by omega
      have hre : at' (reachL c) k = true := by simpa using c2
      obtain ⟨hi1, hd1, hu1⟩ := hf.u hb
      obtain ⟨hoki, hoko⟩ := hk.ok k hb
      have ho2 := hoko.lt hf.rg.2
      have hli2 := hoki.len hf.rg.2
      refine wct_region_seq (by simp) ?_
      refine wot_o rfl (by exact opt_fieldAddr_fp (by rfl) (by rfl)) (by rfl) (by rfl) (by rfl) ?_
      refine wot_o rfl (by exact opt_load_fp_1 (by rfl) (by rfl) (by rfl)) (by rfl) (by rfl) (by rfl) ?_
      refine wot_o rfl (opt_move (by rfl) (by rfl)) (by rfl) (by rfl) (by rfl) ?_
      refine wot_o rfl (by exact opt_index_lstN (by rfl) (by rfl) (by rfl) (by rfl) (by omega) (by rfl)) (by rfl) (by rfl) (by rfl) ?_
      refine wot_o rfl (by exact opt_load_fp_1 (by rfl) (by rfl) (by rfl)) (by rfl) (by rfl) (by rfl) ?_
      refine wot_c hTb rfl (call_bin (by rfl) (by rfl)) (by refine Drs.cons (by exact Dr.cl (by exact lst_cl _)) ?_; exact Drs.nil) (pu55 (by assumption)) (by exact Enc.cl _) (by rfl) (by rfl) (by rfl) ?_
      refine wot_o rfl (opt_alloc (by rfl)) (by rfl) (by rfl) (by rfl) ?_
      refine wot_of0 rfl (by exact opt_store_row (by rfl) (by rfl) (by rfl) (by rfl) (by rfl) (by trivial) (by exact (wflat_len _).trans (by simp only [List.length_set, BS.h, unionL_len])) (by rfl) (by rfl)) (EffOk.pure hX) (by rfl) (by rfl) ?_
      refine wot_nil ?_
      refine wct_draw_seq (by kernel_rfl) (u := [(0, 8), (2, 8), (5, 8)]) (by kernel_rfl) ?_
      refine wtt_o rfl (by exact opt_load_pt_1 (by rfl) (by rfl) (by rfl) (by rfl)) (by rfl) (by rfl) (by rfl) ?_
      refine wtt_o rfl (by exact opt_fieldAddr_fp (by rfl) (by rfl)) (by rfl) (by rfl) (by rfl) ?_
      refine wtt_o rfl (by exact opt_load_fp_1 (by rfl) (by rfl) (by rfl)) (by rfl) (by rfl) (by rfl) ?_
      refine wtt_o rfl (opt_move (by rfl) (by rfl)) (by rfl) (by rfl) (by rfl) ?_
      refine wtt_o rfl (by exact opt_index_lstN (by rfl) (by rfl) (by rfl) (by rfl) (by omega) (by rfl)) (by rfl) (by rfl) (by rfl) ?_
      refine wtt_o rfl (by exact opt_load_fp_1 (by rfl) (by rfl) (by rfl)) (by rfl) (by rfl) (by rfl) ?_
      refine wtt_o rfl (by exact opt_len_fz (by rfl) (by rfl) (by rfl)) (by rfl) (by rfl) (by rfl) ?_
      refine wtt_o (x := Enc.tv (ofB (at' x.out k))) rfl (opt_as (by exact opt_load_row (by rfl) (by rfl) (by rfl) (by exact (wflat_len _).trans (by simp only [List.length_set, BS.h, unionL_len])) (by rfl)) (by rfl)) (by rfl) (by rfl) (by rfl) ?_
      refine wtt_c hTb rfl (call_bin (by rfl) (by rfl)) (by refine Drs.cons (by exact Dr.cl (by exact Enc.cl _)) ?_; exact Drs.nil) (pu56) (by exact Cl.v _) (by rfl) (by rfl) (by rfl) ?_
      refine wtt_o rfl (opt_max3 (by rfl) (by rfl) (by rfl) (by rfl) (by rfl) (by rfl)) (by rfl) (by rfl) (by rfl) ?_
      refine wtt_of0 rfl (by exact opt_store_row (by rfl) (by rfl) (by rfl) (by rfl) (by rfl) (by trivial) (by rfl) (by rfl) (by rfl)) (EffOk.pure hX) (by rfl) (by rfl) ?_
      refine wtt_nil ?_
      refine ⟨⟨(by exact chk_pt (t := 3) (by rfl) (by rfl) (by rfl) (by rfl) (by rfl) (by rfl) (by rfl) (by rfl) (by rfl)), (by exact ChkT.fp (by rfl) (by rfl) (by rfl) (by rfl) (by rfl)), (by exact ChkT.fp (by rfl) (by rfl) (by rfl) (by rfl) (by rfl)), trivial⟩, ?_⟩
      (refine wct_assoc ?_)
      refine wct_region_seq (by simp) ?_
      refine wot_o rfl (by exact opt_fieldAddr_fp (by rfl) (by rfl)) (by rfl) (by rfl) (by rfl) ?_
      refine wot_o rfl (by exact opt_load_fp_1 (by rfl) (by rfl) (by rfl)) (by rfl) (by rfl) (by rfl) ?_
      refine wot_o rfl (opt_move (by rfl) (by rfl)) (by rfl) (by rfl) (by rfl) ?_
      refine wot_o rfl (by exact opt_index_lstN (by rfl) (by rfl) (by rfl) (by rfl) (by omega) (by rfl)) (by rfl) (by rfl) (by rfl) ?_
      refine wot_o rfl (by exact opt_fieldAddr_fp (by rfl) (by rfl)) (by rfl) (by rfl) (by rfl) ?_
      refine wot_o rfl (by exact opt_load_fp_1 (by rfl) (by rfl) (by rfl)) (by rfl) (by rfl) (by rfl) ?_
      refine wot_c hTb rfl (call_bin (by rfl) (by rfl)) (by refine Drs.cons (by exact Dr.cl (by exact lst_cl _)) ?_; exact Drs.nil) (pu57) (by exact cl_back) (by rfl) (by rfl) (by rfl) ?_
      refine wot_nil ?_
      refine wct_block_seq (wct_back (R := fun j => [rl 0 3 [backM (sizeF (at' c.b k).i (ofB (at' x.out k))) (at' c.b k).i.length (max (max m ((at' x.in_ k).length : Int)) ((listB (ofB (at' x.out k))).length : Int)) j], rl 0 93 (atB (at' c.b k).i (ofB (at' x.out k)) j).ws]) hX (by rfl) (by rfl) (by rfl) (by rfl) (by simp only [atB_len, backM_end]; rfl) (fun j hj X' hX' hTb' hE => ?_) (fun _ => by rfl) (fun _ => by (refine ⟨by (exact lo_all rfl), ?_⟩; refine ⟨by (intro c hc; exact Lo.cl (flat_cl _ c hc)), ?_⟩; exact trivial)) ?_)
      · replace hTb := hTb'.trans hTb
        clear hTb' hX
        have hX := hX'
        refine wct_region (by simp) ?_
        refine wot_o rfl (opt_alloc (by rfl)) (by rfl) (by rfl) (by rfl) ?_
        refine wot_of0 rfl (by exact opt_store_row (by rfl) (by rfl) (by rfl) (by rfl) (by rfl) (by trivial) (by rfl) (by rfl) (by rfl)) (hE _) (by rfl) (by rfl) ?_
        refine wot_nil ?_
        (refine wct_block1 ?_)
        obtain ⟨hdj, huj⟩ := hi1 _ (at_mem' (xs := (at' c.b k).i) (k := j) hj)
        refine wct_draw_seq (by kernel_rfl) (u := [(0, 3), (0, 4), (0, 5), (1, 3)]) (by kernel_rfl) ?_
        refine wtt_o rfl (by exact opt_load_pt_1 (by rfl) (by rfl) (by rfl) (by rfl)) (by rfl) (by rfl) (by rfl) ?_
        refine wtt_o (x := Enc.tv (atB (at' c.b k).i (ofB (at' x.out k)) (j + 1))) rfl (opt_as (by exact opt_load_row (by rfl) (by rfl) (by rfl) (by exact (wflat_len _).trans (by simp only [List.length_set, BS.h, unionL_len])) (by rfl)) (by rfl)) (by rfl) (by rfl) (by rfl) ?_
        refine wtt_o (x := Enc.tv (at' (at' c.b k).i j)) rfl (opt_as (by exact opt_load_row (by rfl) (by rfl) (by rfl) (by rfl) (by rfl)) (by rfl)) (by rfl) (by rfl) (by rfl) ?_
        refine wtt_c hTb rfl (call_bin (by rfl) (by rfl)) (by refine Drs.cons (by exact Dr.cl (by exact Enc.cl _)) ?_; exact Drs.nil) (pu59) (by exact Cl.v _) (by rfl) (by rfl) (by rfl) ?_
        refine wtt_c hTb rfl (call_bin (by rfl) (by rfl)) (by refine Drs.cons (by exact Dr.cl (by exact Enc.cl _)) ?_; refine Drs.cons (by exact Dr.cl (by exact Cl.v _)) ?_; exact Drs.nil) (pu58 hdj) (by exact Enc.cl _) (by rfl) (by rfl) (by rfl) ?_
        refine wtt_c hTb rfl (call_bin (by rfl) (by rfl)) (by refine Drs.cons (by exact Dr.cl (by exact Enc.cl _)) ?_; exact Drs.nil) (pu56) (by exact Cl.v _) (by rfl) (by rfl) (by rfl) ?_
        refine wtt_o rfl (opt_max2 (by rfl) (by rfl) (by rfl) (by rfl)) (by rfl) (by rfl) (by rfl) ?_
        refine wtt_of0 rfl (by exact opt_store_row (by rfl) (by rfl) (by rfl) (by rfl) (by rfl) (by trivial) (by rfl) (by rfl) (by rfl)) (hE _) (by rfl) (by rfl) ?_
        refine wtt_nil ?_
        refine ⟨⟨(by exact chk_pt (t := 3) (by rfl) (by rfl) (by rfl) (by rfl) (by rfl) (by rfl) (by rfl) (by rfl) (by rfl)), (by exact chk_pt (t := 3) (by rfl) (by rfl) (by rfl) (by rfl) (by rfl) (by rfl) (by rfl) (by rfl) (by rfl)), (by exact chk_pt (t := 3) (by rfl) (by rfl) (by rfl) (by rfl) (by rfl) (by rfl) (by rfl) (by rfl) (by rfl)), (by exact chk_pt (t := 93) (by rfl) (by rfl) (by rfl) (by rfl) (by rfl) (by rfl) (by rfl) (by rfl) (by (rw [wflat_len, BS.h]; rfl))), trivial⟩, ?_⟩
        refine wct_region (by simp) ?_
        refine wot_o (x := Enc.tv (at' (at' c.b k).i j)) rfl (opt_as (by exact opt_load_row (by rfl) (by rfl) (by rfl) (by rfl) (by rfl)) (by rfl)) (by rfl) (by rfl) (by rfl) ?_
        refine wot_o (x := Enc.tv (atB (at' c.b k).i (ofB (at' x.out k)) (j + 1))) rfl (opt_as (by exact opt_load_row (by rfl) (by rfl) (by rfl) (by exact (wflat_len _).trans (by simp only [List.length_set, BS.h, unionL_len])) (by rfl)) (by rfl)) (by rfl) (by rfl) (by rfl) ?_
        refine wot_c hTb rfl (call_bin (by rfl) (by rfl)) (by refine Drs.cons (by exact Dr.cl (by exact Enc.cl _)) ?_; refine Drs.cons (by exact Dr.cl (by exact Enc.cl _)) ?_; exact Drs.nil) (pu60 hdj huj) (by exact Enc.cl _) (by rfl) (by rfl) (by rfl) ?_
        refine wot_of0 rfl (by exact opt_store_row (by rfl) (by rfl) (by rfl) (by rfl) (by rfl) (by trivial) (by rfl) (by exact (wflat_len _).trans (by simp only [List.length_set, BS.h, unionL_len])) (by rfl)) (hE _) (by rfl) (by rfl) ?_
        refine wot_nil ?_
        (refine qbt_normal ?_)
        exact ⟨rfl, [_], by simp only [atB_step hj, backM_step hj]; rfl⟩
      (refine qbt_normal ?_; refine qst_wct ?_)
      refine wct_region_seq (by simp) ?_
      refine wot_o rfl (by exact opt_fieldAddr_fp (by rfl) (by rfl)) (by rfl) (by rfl) (by rfl) ?_
      refine wot_o rfl (by exact opt_load_fp_1 (by rfl) (by rfl) (by rfl)) (by rfl) (by rfl) (by rfl) ?_
      refine wot_o rfl (opt_move (by rfl) (by rfl)) (by rfl) (by rfl) (by rfl) ?_
      refine wot_o rfl (by exact opt_index_lstN (by rfl) (by rfl) (by rfl) (by rfl) (by omega) (by rfl)) (by rfl) (by rfl) (by rfl) ?_
      refine wot_o rfl (by exact opt_fieldAddr_fp (by rfl) (by rfl)) (by rfl) (by rfl) (by rfl) ?_
      refine wot_o (x := Enc.tv (at' c.b k).t) rfl (opt_as (by exact opt_load_fp_a (by rfl) (by rfl) (by rfl)) (by rfl)) (by rfl) (by rfl) (by rfl) ?_
      refine wot_o rfl (opt_alloc (by rfl)) (by rfl) (by rfl) (by rfl) ?_
      refine wot_of0 rfl (by exact opt_store_row (by rfl) (by rfl) (by rfl) (by rfl) (by rfl) (by trivial) (by rfl) (by rfl) (by rfl)) (EffOk.pure hX) (by rfl) (by rfl) ?_
      refine wot_nil ?_
      refine wct_region_seq (by simp) ?_
      refine wot_o (x := Enc.tv (at' c.b k).t) rfl (opt_as (by exact opt_load_row (by rfl) (by rfl) (by rfl) (by rfl) (by rfl)) (by rfl)) (by rfl) (by rfl) (by rfl) ?_
      refine wot_c hTb rfl (call_bin (by rfl) (by rfl)) (by refine Drs.cons (by exact Dr.cl (by exact Enc.cl _)) ?_; exact Drs.nil) (pu61) (by exact Cl.v _) (by rfl) (by rfl) (by rfl) ?_
      refine wot_o rfl (opt_cmp (by rfl) (by rfl) (by rfl) (by rfl) (by rfl)) (by rfl) (by rfl) (by rfl) ?_
      refine wot_nil ?_
      refine wct_if (by rfl) (by rfl) (fun c3 => ?_) (fun c3 => ?_)
      · (skip)
        try simp only [Int.toNat_natCast] at c3
        have hto := (hf.rt _ (at_mem' (xs := c.b) (k := k) hb)).2.2.2 (dfnT_kind c3)
        have hokt := (hk.ok (at' c.b k).t.to0.toNat (by omega)).1
        have hot2 := hokt.lt hf.rg.2
        refine wct_draw (by kernel_rfl) (u := [(0, 8), (0, 10), (0, 11), (0, 12), (9, 8)]) (by kernel_rfl) ?_
        refine wtt_o rfl (by exact opt_load_pt_1 (by rfl) (by rfl) (by rfl) (by rfl)) (by rfl) (by rfl) (by rfl) ?_
        refine wtt_o rfl (by exact opt_fieldAddr_fp (by rfl) (by rfl)) (by rfl) (by rfl) (by rfl) ?_
        refine wtt_o rfl (by exact opt_load_fp_1 (by rfl) (by rfl) (by rfl)) (by rfl) (by rfl) (by rfl) ?_
        refine wtt_o rfl (by exact opt_fieldAddr_pt (by rfl) (by rfl) (by rfl) (by rfl)) (by rfl) (by rfl) (by rfl) ?_
        refine wtt_o rfl (by exact opt_index_pta (by rfl) (by rfl) (by rfl) (by rfl) (by rfl) (by rfl) (by omega) (by omega)) (by rfl) (by rfl) (by rfl) ?_
        refine wtt_o rfl (by exact opt_load_pt_1 (by rfl) (by rfl) (by rfl) (by rfl)) (by rfl) (by rfl) (by rfl) ?_
        refine wtt_o rfl (by exact opt_index_lst (by rfl) (by rfl) (by rfl) (by rfl) (by omega) (by omega) (by rfl)) (by rfl) (by rfl) (by rfl) ?_
        refine wtt_o rfl (by exact opt_load_fp_1 (by rfl) (by rfl) (by rfl)) (by rfl) (by rfl) (by rfl) ?_
        refine wtt_c hTb rfl (call_bin (by rfl) (by rfl)) (by refine Drs.cons (by exact Dr.cl (by exact lst_cl _)) ?_; exact Drs.nil) (pu55 hot2) (by exact Enc.cl _) (by rfl) (by rfl) (by rfl) ?_
        refine wtt_o (x := Enc.tv (at' c.b k).t) rfl (opt_as (by exact opt_load_row (by rfl) (by rfl) (by rfl) (by rfl) (by rfl)) (by rfl)) (by rfl) (by rfl) (by rfl) ?_
        refine wtt_c hTb rfl (call_bin (by rfl) (by rfl)) (by refine Drs.cons (by exact Dr.cl (by exact Enc.cl _)) ?_; exact Drs.nil) (pu61) (by exact Cl.v _) (by rfl) (by rfl) (by rfl) ?_
        refine wtt_c hTb rfl (call_bin (by rfl) (by rfl)) (by refine Drs.cons (by exact Dr.cl (by exact Enc.cl _)) ?_; refine Drs.cons (by exact Dr.cl (by exact Cl.v _)) ?_; exact Drs.nil) (pu58 hd1) (by exact Enc.cl _) (by rfl) (by rfl) (by rfl) ?_
        refine wtt_c hTb rfl (call_bin (by rfl) (by rfl)) (by refine Drs.cons (by exact Dr.cl (by exact Enc.cl _)) ?_; exact Drs.nil) (pu56) (by exact Cl.v _) (by rfl) (by rfl) (by rfl) ?_
        refine wtt_o rfl (opt_max2 (by rfl) (by rfl) (by rfl) (by rfl)) (by rfl) (by rfl) (by rfl) ?_
        refine wtt_of0 rfl (by exact opt_store_row (by rfl) (by rfl) (by rfl) (by rfl) (by rfl) (by trivial) (by rfl) (by rfl) (by rfl)) (EffOk.pure hX) (by rfl) (by rfl) ?_
        refine wtt_nil ?_
        refine ⟨⟨(by exact chk_pt (t := 3) (by rfl) (by rfl) (by rfl) (by rfl) (by rfl) (by rfl) (by rfl) (by rfl) (by rfl)), (by exact chk_pt (t := 3) (by rfl) (by rfl) (by rfl) (by rfl) (by rfl) (by rfl) (by rfl) (by rfl) (by rfl)), (by exact chk_pt (t := 3) (by rfl) (by rfl) (by rfl) (by rfl) (by rfl) (by rfl) (by rfl) (by rfl) (by rfl)), (by exact chk_pt (t := 3) (by rfl) (by rfl) (by rfl) (by rfl) (by rfl) (by rfl) (by rfl) (by rfl) (by rfl)), (by exact chk_pt (t := 62) (by rfl) (by rfl) (by rfl) (by rfl) (by rfl) (by rfl) (by rfl) (by rfl) (by rfl)), trivial⟩, ?_⟩
        (refine qbt_normal ?_; refine qst_wct ?_)
        refine wct_ghost (g_pop (F := [(2, .fp false (cls c) 0), (3, .fp false (cls x) 0), (5, .pt 0 0 0), (13, lst false (reachL c)), (14, ti ((reachL c).length : Int)), (15, ti (k : Int))]) (Th1 := [⟨0, some (3, _)⟩]) (by rfl) (by (rw [hX]; exact Nat.zero_le _)) (by exact ⟨rfl, rfl, rfl, rfl, rfl, rfl, trivial⟩) (by refine ⟨by exact Lo.cl (Cl.fp (cls_cl _)), ?_⟩; refine ⟨by exact Lo.cl (Cl.fp (cls_cl _)), ?_⟩; refine ⟨by exact Lo.pt (by rfl), ?_⟩; refine ⟨by exact Lo.cl (lst_cl _), ?_⟩; refine ⟨by exact Lo.cl (Cl.v _), ?_⟩; refine ⟨by exact Lo.cl (Cl.v _), ?_⟩; exact trivial) (by refine ⟨by (exact lo_all rfl), ?_⟩; exact trivial)) ?_
        refine wct_region (by simp) ?_
        refine wot_o rfl (opt_add (by rfl) (by rfl) (by rfl) (by rfl) (by constructor <;> omega)) (by rfl) (by rfl) (by rfl) ?_
        refine wot_o rfl (opt_move (by rfl) (by rfl)) (by rfl) (by rfl) (by rfl) ?_
        refine wot_nil ?_
        (refine qst_loop ?_)
        refine rnd (k + 1, max (backM (sizeF (at' c.b k).i (ofB (at' x.out k))) (at' c.b k).i.length (max (max m ((at' x.in_ k).length : Int)) ((listB (ofB (at' x.out k))).length : Int)) 0) ((listB (withB (ofB (at' x.in_ (at' c.b k).t.to0.toNat)) (dfnT (at' c.b k).t))).length : Int)) (by (try simp only); omega) ?_ (by exact ⟨rfl, rfl, rfl, rfl, rfl, rfl, trivial⟩) (by rfl)
        try dsimp only
        refine ⟨by omega, ?_⟩
        rw [List.range_succ, List.foldl_append, ← hm]
        simp only [List.foldl_cons, List.foldl_nil, pressB, if_pos hre, if_pos c3]
        rw [press_back hf hb hoko, listB_ofB (hoko.w hf.rg.2), size_with (hokt.w hf.rg.2) hd1]
      · (refine wct_skip ?_; refine qbt_normal ?_; refine qst_wct ?_)
        try simp only [Int.toNat_natCast] at c3
        refine wct_ghost (g_pop (F := [(2, .fp false (cls c) 0), (3, .fp false (cls x) 0), (5, .pt 0 0 0), (13, lst false (reachL c)), (14, ti ((reachL c).length : Int)), (15, ti (k : Int))]) (Th1 := [⟨0, some (3, _)⟩]) (by rfl) (by (rw [hX]; exact Nat.zero_le _)) (by exact ⟨rfl, rfl, rfl, rfl, rfl, rfl, trivial⟩) (by refine ⟨by exact Lo.cl (Cl.fp (cls_cl _)), ?_⟩; refine ⟨by exact Lo.cl (Cl.fp (cls_cl _)), ?_⟩; refine ⟨by exact Lo.pt (by rfl), ?_⟩; refine ⟨by exact Lo.cl (lst_cl _), ?_⟩; refine ⟨by exact Lo.cl (Cl.v _), ?_⟩; refine ⟨by exact Lo.cl (Cl.v _), ?_⟩; exact trivial) (by refine ⟨by (exact lo_all rfl), ?_⟩; exact trivial)) ?_
        refine wct_region (by simp) ?_
        refine wot_o rfl (opt_add (by rfl) (by rfl) (by rfl) (by rfl) (by constructor <;> omega)) (by rfl) (by rfl) (by rfl) ?_
        refine wot_o rfl (opt_move (by rfl) (by rfl)) (by rfl) (by rfl) (by rfl) ?_
        refine wot_nil ?_
        (refine qst_loop ?_)
        refine rnd (k + 1, backM (sizeF (at' c.b k).i (ofB (at' x.out k))) (at' c.b k).i.length (max (max m ((at' x.in_ k).length : Int)) ((listB (ofB (at' x.out k))).length : Int)) 0) (by (try simp only); omega) ?_ (by exact ⟨rfl, rfl, rfl, rfl, rfl, rfl, trivial⟩) (by rfl)
        try dsimp only
        refine ⟨by omega, ?_⟩
        rw [List.range_succ, List.foldl_append, ← hm]
        simp only [List.foldl_cons, List.foldl_nil, pressB, if_pos hre, if_neg c3]
        rw [press_back hf hb hoko, listB_ofB (hoko.w hf.rg.2)]
  · (refine wct_exit_seq ?_; refine qst_exit ?_; refine qbt_same ?_; refine qst_wct ?_)
    try simp only [Int.toNat_natCast] at c1
    refine wct_region_seq (by simp) ?_
    refine wot_o rfl (by exact opt_load_pt_1 (by rfl) (by rfl) (by rfl) (by rfl)) (by rfl) (by rfl) (by rfl) ?_
    refine wot_o rfl (opt_assign (by rfl) (by rfl)) (by rfl) (by rfl) (by rfl) ?_
    refine wot_nil ?_
    (refine wct_ret ?_)
    refine fin_1c (by simp) rfl (by rfl) (by exact Cl.v _) ?_
    have e : k = c.b.length := by omega
    rw [hm, e]; rfl
end Go.Ab
