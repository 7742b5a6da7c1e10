/- Lemmas on the road to a card of this seat. Each holds for every input that its own premises speak of. -/
import Derived.Test.YtaaeeiheeihjaaaDoorA7
import Derived.Test.YtaaeeiheeihjaaaDoorA8
import Derived.Test.YtaaeeiheeihjaaaDoorG1
import Derived.Test.YtaaeeiheeihjaaaDoorG2
import Derived.Test.YtaaeeiheeihjaaaDoorG3
import Derived.Test.YtaaeeiheeihjaaaDoorG4
import Derived.Test.YtaaeeiheeihjaaaDoorG5
import Derived.Test.YtaaeeiheeihjaaaDoorT9qr
set_option linter.all false
namespace Go.Ab
open Go.Proofs
theorem fn8 : Tryd.prog.funcs[8]? = some Tryd.f8 := by kernel_rfl
theorem pu14 {c : Code} (hf : Fit c) : Pu Tryd.prog 14 [Enc.tv c] (fun r => ∃ x, r = Enc.tv x ∧ Least c x) := by
  have hnb := hf.nb
  have hrl := reachL_len c
  have hrg := hf.rg
  refine pu_fn fn14 (by rfl) (by rfl) (by rfl) fun X hX hTb => ?_
  refine wct_region_seq (by simp) ?_
  refine wq rfl (opt_box_fz (by rfl) (by rfl) (by trivial)) ?_
  refine wq rfl (opt_alloc (by rfl)) ?_
  refine wot_nil ?_
  refine wct_region_seq (by simp) ?_
  refine wq rfl (opt_build (by rfl) (by rfl) (by rfl) (by rfl)) ?_
  refine wq rfl (by exact opt_load_fp_row (by rfl) (by rfl) (by rfl)) ?_
  refine wot_c hTb rfl (call_bin (by rfl) (by rfl)) (by refine Drs.cons (by exact Dr.cl (by exact Cl.agg (cls_cl _))) ?_; exact Drs.nil) (pu25 (by assumption)) (by exact lst_cl _) (by rfl) (by rfl) (by rfl) ?_
  refine wq rfl (opt_alloc (by rfl)) ?_
  refine wot_of0 rfl (by exact opt_store_row (by rfl) (by rfl) (by rfl) (by rfl) (by rfl) (by trivial) (by rfl) (by rfl) (by rfl)) (EffOk.pure hX) (by rfl) (by rfl) ?_
  refine wq rfl qa ?_
  refine wot_nil ?_
  (refine wct_assoc ?_)
  refine wct_ghost (g_nilcell (i := 1) 0 1 47 rfl rfl) ?_
  refine wct_ghost (g_nilcell (i := 1) 1 1 47 rfl rfl) ?_
  refine wct_region_seq (by simp) ?_
  refine wq rfl qc ?_
  refine wot_nil ?_
  refine wct_loop2 (fun (k : Nat) (ls : List (List Int)) => k ≤ c.b.length ∧ ls = List.replicate k [] ∧ ls.length = k) (fun (k : Nat) (ls : List (List Int)) => [(1, .fp false (cls c) 0), (2, .pt 0 0 0), (3, .pt 1 0 0), (4, lst false (reachL c)), (5, ti (k : Int))]) (fun (k : Nat) (ls : List (List Int)) => [⟨0, some (38, [.v (.slice none 0 0), .v (.slice none 0 0)])⟩, ⟨0, some (38, [ownl 2 k ls, ownl 3 k ls])⟩, rl k 47 ls, rl k 47 ls]) (fun (k : Nat) (ls : List (List Int)) => c.b.length - k) 0 [] (by exact ⟨rfl, rfl, rfl, rfl, rfl, trivial⟩) (by rfl) ?_ ?_
  · simp
  rintro k ls ⟨hk, h1, h2⟩
  (refine wct_assoc ?_)
  refine wct_region_seq (by simp) ?_
  refine wq rfl qm ?_
  refine wq rfl qf ?_
  refine wq rfl q1 ?_
  refine wq rfl qn ?_
  refine wq rfl qk ?_
  refine wot_nil ?_
  refine wct_if_seq (by rfl) (by rfl) (fun c1 => ?_) (fun c1 => ?_)
  · (refine wct_skip_seq ?_; refine wct_block_sq ?_)
    try simp only [Int.toNat_natCast] at c1
    refine wct_region_seq (by simp) ?_
    refine wq rfl qF ?_
    refine wq rfl ql ?_
    refine wq rfl (opt_lit_l (([] : List Int)) (by rfl) (by rfl) (by rfl) (by rfl) (by rfl) (by rfl) (by rfl) (by rfl) (by rfl) (by rfl)) ?_
    refine wq rfl (opt_lit_l ([([] : List Int)]) (by rfl) (by rfl) (by rfl) (by rfl) (by rfl) (by rfl) (by rfl) (by rfl) (by rfl) (by rfl)) ?_
    refine wot_of rfl (by exact opt_append_l (by rfl) (by rfl) (by rfl) (by rfl) src_lst (by rfl) (by rfl) (by rfl) (by (simp only [List.length_append, List.length_cons, List.length_nil, List.length_take, List.length_drop]; omega)) (by rfl)) (EffOk.pure hX) (by rfl) (by rfl) (by rfl) ?_
    refine wq rfl qF ?_
    refine wot_of0 rfl (by exact opt_store (by rfl) (by rfl) (by rfl) (by rfl) (by rfl) (by trivial) (by rfl) (by rfl) (by rfl)) (EffOk.pure hX) (by rfl) (by rfl) ?_
    refine wot_nil ?_
    refine wct_region (by simp) ?_
    refine wq rfl qF ?_
    refine wq rfl ql ?_
    refine wq rfl (opt_lit_l (([] : List Int)) (by rfl) (by rfl) (by rfl) (by rfl) (by rfl) (by rfl) (by rfl) (by rfl) (by rfl) (by rfl)) ?_
    refine wq rfl (opt_lit_l ([([] : List Int)]) (by rfl) (by rfl) (by rfl) (by rfl) (by rfl) (by rfl) (by rfl) (by rfl) (by rfl) (by rfl)) ?_
    refine wot_of rfl (by exact opt_append_l (by rfl) (by rfl) (by rfl) (by rfl) src_lst (by rfl) (by rfl) (by rfl) (by (simp only [List.length_append, List.length_cons, List.length_nil, List.length_take, List.length_drop]; omega)) (by rfl)) (EffOk.pure hX) (by rfl) (by rfl) (by rfl) ?_
    refine wq rfl qF ?_
    refine wot_of0 rfl (by exact opt_store (by rfl) (by rfl) (by rfl) (by rfl) (by rfl) (by trivial) (by rfl) (by rfl) (by rfl)) (EffOk.pure hX) (by rfl) (by rfl) ?_
    refine wot_nil ?_
    (refine qbt_normal ?_; refine qst_wct ?_)
    refine wct_region (by simp) ?_
    refine wq rfl qm ?_
    refine wq rfl (opt_add (by rfl) (by rfl) (by rfl) (by rfl) (by constructor <;> omega)) ?_
    refine wq rfl qa ?_
    refine wot_nil ?_
    (refine qst_loop ?_)
    refine rnd (k + 1, ls ++ [[]]) (by (try simp only); omega) ?_ (by exact ⟨rfl, rfl, rfl, rfl, rfl, trivial⟩) (by rfl)
    try dsimp only
    refine ⟨by omega, by rw [h1, ← List.replicate_succ'], by simp [h2]⟩
  · (refine wct_exit_seq ?_; refine wct_assoc ?_)
    try simp only [Int.toNat_natCast] at c1
    obtain rfl : k = c.b.length := by omega
    have hown : ∀ i g, ownl i g ls = .own i g 1 0 c.b.length c.b.length := by intro i g; show TV.own i g 1 0 ls.length ls.length = _; rw [h2]
    simp only [hown]
    clear hk c1
    refine wct_region_seq (by simp) ?_
    refine wq rfl qc ?_
    refine wot_nil ?_
    refine wct_loop2 (fun (mo : Bool) (x : Live) => Way c x ∧ (mo = false → Least c x)) (fun (mo : Bool) (x : Live) => [(1, .fp false (cls c) 0), (2, .pt 0 0 0), (3, .pt 1 0 0), (4, lst false (reachL c)), (6, tb mo)]) (fun (mo : Bool) (x : Live) => [⟨0, some (38, [.v (.slice none 0 0), .v (.slice none 0 0)])⟩, ⟨0, some (38, [.own 2 c.b.length 1 0 c.b.length c.b.length, .own 3 c.b.length 1 0 c.b.length c.b.length])⟩, rl c.b.length 47 x.in_, rl c.b.length 47 x.out]) (fun (mo : Bool) (x : Live) => 2 * (512 * c.b.length - tot x) + (if mo = true then 1 else 0)) true (⟨ls, ls⟩) (by exact ⟨rfl, rfl, rfl, rfl, rfl, trivial⟩) (by rfl) ?_ ?_
    · exact ⟨by rw [h1]; exact Way.start c, by simp⟩
    rintro mo x ⟨hw, hlst⟩
    (refine wct_assoc ?_)
    refine wct_region_seq (by simp) ?_
    refine wq rfl qm ?_
    refine wot_nil ?_
    refine wct_ifb_seq (by rfl) (by rfl) (fun c2 => ?_) (fun c2 => ?_)
    · (refine wct_skip_seq ?_; refine wct_block1 ?_)
      try simp only [Int.toNat_natCast] at c2
      refine wct_region_seq (by simp) ?_
      refine wq rfl qc ?_
      refine wot_nil ?_
      refine wct_region_seq (by simp) ?_
      refine wq rfl qc ?_
      refine wot_nil ?_
      refine wct_loop13 (fun (k : Nat) (m : Bool) (y : Live) => k ≤ c.b.length ∧ Way c y ∧ tot x ≤ tot y ∧ (m = true → tot x < tot y) ∧ (m = false → y = x ∧ ∀ b, b < k → at' (reachL c) b = true → at' x.out b = neededI (at' c.b b).t x.in_ ∧ at' x.in_ b = atI (at' c.b b).i (at' x.out b) 0)) (fun (k : Nat) (m : Bool) (y : Live) => [(1, .fp false (cls c) 0), (2, .pt 0 0 0), (3, .pt 1 0 0), (4, lst false (reachL c)), (6, tb m), (7, ti (k : Int))]) (fun (k : Nat) (m : Bool) (y : Live) => [⟨0, some (38, [.v (.slice none 0 0), .v (.slice none 0 0)])⟩, ⟨0, some (38, [.own 2 c.b.length 1 0 c.b.length c.b.length, .own 3 c.b.length 1 0 c.b.length c.b.length])⟩, rl c.b.length 47 y.in_, rl c.b.length 47 y.out]) (fun (k : Nat) (m : Bool) (y : Live) => c.b.length - k) 0 false x (by exact ⟨rfl, rfl, rfl, rfl, rfl, rfl, trivial⟩) (by rfl) ?_ ?_
      · exact ⟨by omega, hw, Nat.le_refl _, by simp, fun _ => ⟨rfl, by simp⟩⟩
      rintro k m y ⟨hk, hy, ht, hm1, hm2⟩
      (refine wct_assoc ?_)
      refine wct_region_seq (by simp) ?_
      refine wq rfl qm ?_
      refine wq rfl qf ?_
      refine wq rfl q1 ?_
      refine wq rfl qn ?_
      refine wq rfl qk ?_
      refine wot_nil ?_
      refine wct_if_seq (by rfl) (by rfl) (fun c3 => ?_) (fun c3 => ?_)
      · (refine wct_skip_seq ?_; refine wct_block_sq ?_; refine wct_assoc ?_)
        try simp only [Int.toNat_natCast] at c3
        have hyi := hy.li
        have hyo := hy.lo
        refine wct_region_seq (by simp) ?_
        refine wq rfl qm ?_
        refine wq rfl qm ?_
        refine wq rfl (by exact opt_index_lstN (by rfl) (by rfl) (by rfl) (by rfl) (by omega) (by rfl)) ?_
        refine wq rfl q1 ?_
        refine wq rfl (opt_not (by rfl) (by rfl)) ?_
        refine wot_nil ?_
        refine wct_ifb_seq (by rfl) (by rfl) (fun c4 => ?_) (fun c4 => ?_)
        · (refine wct_exit_seq ?_; refine qbt_same ?_; refine qst_wct ?_)
          try simp only [Int.toNat_natCast] at c4
          refine wct_region (by simp) ?_
          refine wq rfl qm ?_
          refine wq rfl (opt_add (by rfl) (by rfl) (by rfl) (by rfl) (by constructor <;> omega)) ?_
          refine wq rfl qa ?_
          refine wot_nil ?_
          (refine qst_loop ?_)
          refine rnd (k + 1, m, y) (by (try simp only); omega) ?_ (by exact ⟨rfl, rfl, rfl, rfl, rfl, rfl, trivial⟩) (by rfl)
          try dsimp only
          refine ⟨by omega, hy, ht, hm1, fun hm => ?_⟩
          obtain ⟨e, h⟩ := hm2 hm
          refine ⟨e, fun b hb hr => ?_⟩
          rcases Nat.lt_or_ge b k with h3 | h3
          · exact h b h3 hr
          · have : b = k := by omega
            subst this
            rw [hr] at c4; simp at c4
        · (refine wct_skip_seq ?_)
          try simp only [Int.toNat_natCast] at c4
          have hre : at' (reachL c) k = true := by simpa using c4
          have hto := hf.to _ (at_mem' (xs := c.b) (k := k) (by omega))
          have hto2 : ∀ s ∈ succT (at' c.b k).t, 0 ≤ s ∧ s < y.in_.length := fun s hs => by have := hto s hs; omega
          have hin : ∀ l ∈ y.in_, l.length ≤ 2 ^ 16 := fun l hl => by obtain ⟨b, hb, rfl⟩ := List.mem_iff_getElem.1 hl; have := (hy.ok b (by omega)).1.len hrg.2; simp [at', hb] at this; omega
          have hni := hf.ni _ (at_mem' (xs := c.b) (k := k) (by omega))
          have hone := hy.one hf (by omega : k < c.b.length) hre
          have hnl : (neededI (at' c.b k).t y.in_).length ≤ 256 := (LiOk.needed (regs := c.regs) (fun s hs => (hy.ok _ (by have := hto s hs; omega)).1) (hf.rt _ (at_mem' (by omega))).2.1).len hrg.2
          have htt := one_tot hf hy (by omega : k < c.b.length) hre
          refine wct_region_seq (by simp) ?_
          refine wq rfl (by exact opt_load_fp_row (by rfl) (by rfl) (by rfl)) ?_
          refine wq rfl qm ?_
          refine wq rfl qF ?_
          refine wq rfl ql ?_
          refine wot_c hTb rfl (call_bin (by rfl) (by rfl)) (by refine Drs.cons (by exact Dr.cl (by exact Cl.agg (cls_cl _))) ?_; refine Drs.cons (by exact Dr.cl (by exact Cl.v _)) ?_; refine Drs.cons (by exact dr_ow (by rfl) (by omega) (by rfl) (by omega) (by exact Nat.le_refl _)) ?_; exact Drs.nil) (pu48 (by omega) (by assumption) (by assumption)) (by exact lst_cl _) (by rfl) (by rfl) (by rfl) ?_
          refine wq rfl qa ?_
          refine wot_nil ?_
          refine wct_region_seq (by simp) ?_
          refine wq rfl qf ?_
          refine wq rfl q1 ?_
          refine wq rfl qm ?_
          refine wq rfl (by exact opt_index_lstN (by rfl) (by rfl) (by rfl) (by rfl) (by omega) (by rfl)) ?_
          refine wot_o (x := Enc.tv (at' c.b k)) rfl (opt_as (by exact opt_load_fp_row (by rfl) (by rfl) (by rfl)) (by rfl)) (by rfl) (by rfl) (by rfl) ?_
          refine wq rfl qm ?_
          refine wot_c hTb rfl (call_bin (by rfl) (by rfl)) (by refine Drs.cons (by exact Dr.cl (by exact Enc.cl _)) ?_; refine Drs.cons (by exact Dr.cl (by exact lst_cl _)) ?_; refine Drs.cons (by exact Dr.cl (by exact Cl.v _)) ?_; exact Drs.nil) (pu49 (by omega) (by omega) (by (simp only [Nat.add_eq]; omega))) (by exact lst_cl _) (by rfl) (by rfl) (by rfl) ?_
          refine wq rfl qa ?_
          refine wot_nil ?_
          (refine wct_assoc ?_)
          refine wct_region_seq (by simp) ?_
          refine wq rfl qm ?_
          refine wq rfl qn ?_
          refine wq rfl qF ?_
          refine wq rfl ql ?_
          refine wq rfl qm ?_
          refine wq rfl (by exact opt_index_lN (by rfl) (by rfl) (by rfl) (by rfl) (by rfl) (by omega)) ?_
          refine wq rfl (by exact opt_load_l1 (by rfl) (by rfl) (by rfl) (by omega) (by rfl) (by rfl)) ?_
          refine wq rfl qn ?_
          refine wq rfl qk ?_
          refine wq rfl qm ?_
          refine wot_split (d := 66) (by rfl) (fun g10 => ?_) (fun g10 => ?_)
          · refine wot_sg (by rfl) (by rfl) (by rfl) (by rfl) (by rfl) (by rfl) ?_
            refine wot_sg (by rfl) (by rfl) (by rfl) (by rfl) (by rfl) (by rfl) ?_
            refine wot_sg (by rfl) (by rfl) (by rfl) (by rfl) (by rfl) (by rfl) ?_
            refine wot_sg (by rfl) (by rfl) (by rfl) (by rfl) (by rfl) (by rfl) ?_
            refine wot_sg (by rfl) (by rfl) (by rfl) (by rfl) (by rfl) (by rfl) ?_
            refine wot_sg (by rfl) (by rfl) (by rfl) (by rfl) (by rfl) (by rfl) ?_
            refine wot_sg (by rfl) (by rfl) (by rfl) (by rfl) (by rfl) (by rfl) ?_
            refine wot_sg (by rfl) (by rfl) (by rfl) (by rfl) (by rfl) (by rfl) ?_
            refine wot_sg (by rfl) (by rfl) (by rfl) (by rfl) (by rfl) (by rfl) ?_
            refine wq rfl (by exact opt_pick_t (by rfl) (by rfl) (by rfl) (by rfl) (by rfl) (by rfl) (by rfl)) ?_
            refine wot_nil ?_
            refine wct_tt_seq (by rfl) (by rfl) ?_
            refine wct_region_seq (by simp) ?_
            refine wq rfl qc ?_
            refine wot_nil ?_
            refine wct_region_seq (by simp) ?_
            refine wq rfl qF ?_
            refine wq rfl ql ?_
            refine wq rfl qm ?_
            refine wq rfl qm ?_
            refine wq rfl (by exact opt_index_lN (by rfl) (by rfl) (by rfl) (by rfl) (by rfl) (by omega)) ?_
            refine wot_of0 rfl (by exact opt_store_l (by rfl) (by rfl) (by rfl) (by rfl) (by rfl) (by trivial) (by rfl) (by omega) (by rfl) (by rfl)) (EffOk.pure hX) (by rfl) (by rfl) ?_
            refine wot_nil ?_
            refine wct_region (by simp) ?_
            refine wq rfl qF ?_
            refine wq rfl ql ?_
            refine wq rfl qm ?_
            refine wq rfl qm ?_
            refine wq rfl (by exact opt_index_lN (by rfl) (by rfl) (by rfl) (by rfl) (by rfl) (by omega)) ?_
            refine wot_of0 rfl (by exact opt_store_l (by rfl) (by rfl) (by rfl) (by rfl) (by rfl) (by trivial) (by rfl) (by omega) (by rfl) (by rfl)) (EffOk.pure hX) (by rfl) (by rfl) ?_
            refine wot_nil ?_
            (refine qbt_normal ?_; refine qst_wct ?_)
            refine wct_region (by simp) ?_
            refine wq rfl qm ?_
            refine wq rfl (opt_add (by rfl) (by rfl) (by rfl) (by rfl) (by constructor <;> omega)) ?_
            refine wq rfl qa ?_
            refine wot_nil ?_
            (refine qst_loop ?_)
            refine rnd (k + 1, true, oneB c y k) (by (try simp only); omega) ?_ (by exact ⟨rfl, rfl, rfl, rfl, rfl, rfl, trivial⟩) (by rfl)
            try dsimp only
            have hlt := htt.2.1 (.inl (by omega))
            exact ⟨by omega, hone.1, by omega, fun _ => by omega, by simp⟩
          · refine wot_og rfl qm (by rfl) (by rfl) (by rfl) (by rfl) (by rfl) (by rfl) ?_
            refine wot_og rfl qn (by rfl) (by rfl) (by rfl) (by rfl) (by rfl) (by rfl) ?_
            refine wot_og rfl qF (by rfl) (by rfl) (by rfl) (by rfl) (by rfl) (by rfl) ?_
            refine wot_og rfl ql (by rfl) (by rfl) (by rfl) (by rfl) (by rfl) (by rfl) ?_
            refine wot_og rfl qm (by rfl) (by rfl) (by rfl) (by rfl) (by rfl) (by rfl) ?_
            refine wot_og rfl (by exact opt_index_lN (by rfl) (by rfl) (by rfl) (by rfl) (by rfl) (by omega)) (by rfl) (by rfl) (by rfl) (by rfl) (by rfl) (by rfl) ?_
            refine wot_og rfl (by exact opt_load_l1 (by rfl) (by rfl) (by rfl) (by omega) (by rfl) (by rfl)) (by rfl) (by rfl) (by rfl) (by rfl) (by rfl) (by rfl) ?_
            refine wot_og rfl qn (by rfl) (by rfl) (by rfl) (by rfl) (by rfl) (by rfl) ?_
            refine wot_og rfl qk (by rfl) (by rfl) (by rfl) (by rfl) (by rfl) (by rfl) ?_
            refine wq rfl (by exact opt_pick_f (by rfl) (by rfl) (by rfl) (by rfl) (by rfl) (by rfl) (by rfl)) ?_
            refine wot_nil ?_
            refine wct_if_seq (by rfl) (by rfl) (fun c5 => ?_) (fun c5 => ?_)
            · (skip)
              try simp only [Int.toNat_natCast] at c5
              refine wct_region_seq (by simp) ?_
              refine wq rfl qc ?_
              refine wot_nil ?_
              refine wct_region_seq (by simp) ?_
              refine wq rfl qF ?_
              refine wq rfl ql ?_
              refine wq rfl qm ?_
              refine wq rfl qm ?_
              refine wq rfl (by exact opt_index_lN (by rfl) (by rfl) (by rfl) (by rfl) (by rfl) (by omega)) ?_
              refine wot_of0 rfl (by exact opt_store_l (by rfl) (by rfl) (by rfl) (by rfl) (by rfl) (by trivial) (by rfl) (by omega) (by rfl) (by rfl)) (EffOk.pure hX) (by rfl) (by rfl) ?_
              refine wot_nil ?_
              refine wct_region (by simp) ?_
              refine wq rfl qF ?_
              refine wq rfl ql ?_
              refine wq rfl qm ?_
              refine wq rfl qm ?_
              refine wq rfl (by exact opt_index_lN (by rfl) (by rfl) (by rfl) (by rfl) (by rfl) (by omega)) ?_
              refine wot_of0 rfl (by exact opt_store_l (by rfl) (by rfl) (by rfl) (by rfl) (by rfl) (by trivial) (by rfl) (by omega) (by rfl) (by rfl)) (EffOk.pure hX) (by rfl) (by rfl) ?_
              refine wot_nil ?_
              (refine qbt_normal ?_; refine qst_wct ?_)
              refine wct_region (by simp) ?_
              refine wq rfl qm ?_
              refine wq rfl (opt_add (by rfl) (by rfl) (by rfl) (by rfl) (by constructor <;> omega)) ?_
              refine wq rfl qa ?_
              refine wot_nil ?_
              (refine qst_loop ?_)
              refine rnd (k + 1, true, oneB c y k) (by (try simp only); omega) ?_ (by exact ⟨rfl, rfl, rfl, rfl, rfl, rfl, trivial⟩) (by rfl)
              try dsimp only
              have hlt := htt.2.1 (.inr (by omega))
              exact ⟨by omega, hone.1, by omega, fun _ => by omega, by simp⟩
            · (refine wct_skip_seq ?_)
              try simp only [Int.toNat_natCast] at c5
              refine wct_region_seq (by simp) ?_
              refine wq rfl qF ?_
              refine wq rfl ql ?_
              refine wq rfl qm ?_
              refine wq rfl qm ?_
              refine wq rfl (by exact opt_index_lN (by rfl) (by rfl) (by rfl) (by rfl) (by rfl) (by omega)) ?_
              refine wot_of0 rfl (by exact opt_store_l (by rfl) (by rfl) (by rfl) (by rfl) (by rfl) (by trivial) (by rfl) (by omega) (by rfl) (by rfl)) (EffOk.pure hX) (by rfl) (by rfl) ?_
              refine wot_nil ?_
              refine wct_region (by simp) ?_
              refine wq rfl qF ?_
              refine wq rfl ql ?_
              refine wq rfl qm ?_
              refine wq rfl qm ?_
              refine wq rfl (by exact opt_index_lN (by rfl) (by rfl) (by rfl) (by rfl) (by rfl) (by omega)) ?_
              refine wot_of0 rfl (by exact opt_store_l (by rfl) (by rfl) (by rfl) (by rfl) (by rfl) (by trivial) (by rfl) (by omega) (by rfl) (by rfl)) (EffOk.pure hX) (by rfl) (by rfl) ?_
              refine wot_nil ?_
              (refine qbt_normal ?_; refine qst_wct ?_)
              refine wct_region (by simp) ?_
              refine wq rfl qm ?_
              refine wq rfl (opt_add (by rfl) (by rfl) (by rfl) (by rfl) (by constructor <;> omega)) ?_
              refine wq rfl qa ?_
              refine wot_nil ?_
              (refine qst_loop ?_)
              refine rnd (k + 1, m, oneB c y k) (by (try simp only); omega) ?_ (by exact ⟨rfl, rfl, rfl, rfl, rfl, rfl, trivial⟩) (by rfl)
              try dsimp only
              have hlt := htt.1
              obtain ⟨e1, e2, e3⟩ := htt.2.2 (by omega)
              refine ⟨by omega, hone.1, by omega, fun hm => by have := hm1 hm; omega, fun hm => ?_⟩
              obtain ⟨e, h⟩ := hm2 hm
              refine ⟨by rw [e1, e], fun b hb hr => ?_⟩
              rcases Nat.lt_or_ge b k with h3 | h3
              · exact h b h3 hr
              · have : b = k := by omega
                subst this
                rw [← e]; exact ⟨e2, e3⟩
      · (refine wct_exit_seq ?_; refine qst_exit ?_; refine qbt_same ?_; refine qbt_normal ?_; refine qst_loop ?_)
        try simp only [Int.toNat_natCast] at c3
        refine rnd (m, y) ?_ ?_ (by exact ⟨rfl, rfl, rfl, rfl, rfl, trivial⟩) rfl
        · have hb := hy.tot hrg.2
          try dsimp only
          cases m with
          | true => have := hm1 rfl; simp [c2]; omega
          | false => simp [c2]; omega
        · refine ⟨hy, fun hm => ?_⟩
          obtain ⟨e, h⟩ := hm2 hm
          subst e
          exact hw.least fun b hb hr => h b (by omega) hr
    · (refine wct_exit_seq ?_; refine qst_exit ?_; refine qbt_same ?_; refine qst_wct ?_)
      try simp only [Int.toNat_natCast] at c2
      refine wct_region_seq (by simp) ?_
      refine wq rfl (by exact opt_load_row (by rfl) (by rfl) (by rfl) (by rfl) (by rfl)) ?_
      refine wot_of0 rfl (by exact opt_store_row (by rfl) (by rfl) (by rfl) (by rfl) (by rfl) (by trivial) (by rfl) (by rfl) (by rfl)) (EffOk.pure hX) (by rfl) (by rfl) ?_
      refine wot_nil ?_
      (refine wct_ret ?_)
      refine finp_cell (by simp) rfl (by rfl) (by rfl) (by rfl) (by rfl) (Dr.agg (.cons (dr_ow (by rfl) hw.li.symm (by rfl) (by omega) (Nat.le_refl _)) (.cons (dr_ow (by rfl) hw.lo.symm (by rfl) (by omega) (Nat.le_refl _)) .nil))) ⟨x, rfl, hlst c2⟩

end Go.Ab
