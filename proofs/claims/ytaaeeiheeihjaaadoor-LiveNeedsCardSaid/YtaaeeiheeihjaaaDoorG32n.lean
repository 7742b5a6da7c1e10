/- The road to a card of this seat: G32. Each theorem holds for every input that its own premises speak of. -/
import Derived.Test.YtaaeeiheeihjaaaDoorG31n
import Derived.Test.YtaaeeiheeihjaaaDoorG28
import Derived.Test.YtaaeeiheeihjaaaDoorBLiveNeeds
set_option linter.all false
namespace Go.Ab
open Go.Proofs
set_option maxRecDepth 100000 in
theorem conv35 (n : Int) : pureV Tryd.prog (convert 3 5 (.int .i64 n)) = some (.int .u8 (IntKind.u8.wrap n)) := by rfl
theorem wrapU8n {n : Nat} (h : n < 256) : IntKind.u8.wrap (n : Int) = n := by
  show ((BitVec.ofInt 8 (n : Int)).toNat : Int) = n
  rw [BitVec.toNat_ofInt]
  omega
theorem conv35n {d : Int} {n : Nat} (hd : d = (n : Int)) (h : n < 256) : pureV Tryd.prog (convert 3 5 (.int .i64 d)) = some (.int .u8 (n : Int)) := by rw [hd, conv35, wrapU8n h]
structure Chg3 where
  kd : Nat
  bl : Nat
  rg : Nat
instance : Enc Chg3 := ⟨3, fun z => .agg [.v (.int .u8 (z.kd : Int)), .v (.int .u8 (z.bl : Int)), .v (.int .u8 (z.rg : Int))], ⟨0, 0, 0⟩, fun _ => rfl, fun _ => cl_agg rfl, fun _ => rfl, by decide⟩
theorem opt_load_V {P : Program} {X : Cx} {E : TEnv} {Th : List Root} {t : TypeId} {x : Operand} {v w : Int} (h : v = w) (hl : OpT P X E Th (.load t x) (ti w) Th .no) : OpT P X E Th (.load t x) (ti v) Th .no := by rw [h]; exact hl
theorem chgL_mem {l : List Int} {r : Int} (h : r ∈ l) : chgL l r = woI l r := by
  unfold chgL
  rw [if_neg]
  intro e
  have h2 := List.length_filter_eq_length_iff.1 e r h
  simp at h2
theorem chg_len {c : Code} {x : Live} {kd bl rg : Nat} : (chg c x kd bl rg).in_.length = x.in_.length ∧ (chg c x kd bl rg).out.length = x.out.length := by
  unfold chg
  split <;> simp
theorem not_chgL {l : List Int} {r : Int} (h : r ∈ l) : r ∉ chgL l r := by
  rw [chgL_mem h]
  simp [woI]
/-- The least live registers without one of them are not closed. -/
theorem Least.need {c : Code} {y : Live} (hy : Least c y) {k b r : Nat} {i : Int} (hk : k < 2) (hb : b < c.b.length) (hr : (r : Int) = i + 1) (hi : i ∈ (if k = 1 then at' y.out b else at' y.in_ b)) (hreg : i < c.regs) (h0 : 0 ≤ i) : ¬ ClosedI c (chg c y k b r) := by
  intro h
  have hm : b % c.b.length = b := Nat.mod_eq_of_lt hb
  have hr2 : ((r % (c.regs + 2).toNat : Nat) : Int) - 1 = i := by rw [Nat.mod_eq_of_lt (by omega)]; omega
  have hle := hy.le _ h.2.2.2 b hb
  have hli := hy.li
  have hlo := hy.lo
  unfold chg at hle
  rw [hm, hr2] at hle
  split at hle
  · rename_i e
    have e1 : k = 1 := by omega
    rw [if_pos e1] at hi
    have := hle.2 i hi
    dsimp only at this
    rw [at_set (by omega), if_pos rfl] at this
    exact not_chgL hi this
  · rename_i e
    have e1 : ¬ k = 1 := by omega
    rw [if_neg e1] at hi
    have := hle.1 i hi
    dsimp only at this
    rw [at_set (by omega), if_pos rfl] at this
    exact not_chgL hi this
theorem pu5a {L : List U8} {z0 z1 : Nat} {o : Bool} (hL : LOk L) (h0 : z0 < 256) (h1 : z1 < 256) (ho : o = false) : Pu Tryd.prog 5 [Enc.tv (⟨L⟩ : Raw), .agg [.v (.int .u8 (z0 : Int)), .v (.int .u8 (z1 : Int))], tb o] (Eq (tb true)) := by
  refine pu_fn fn5 (by rfl) (by rfl) (by rfl) fun X hX hTb => ?_
  refine wct_region_seq (by simp) ?_
  refine wot_o rfl (opt_box_fz (by rfl) (by rfl) (by trivial)) (by rfl) (by rfl) (by rfl) ?_
  refine wot_o rfl (opt_box_fz (by rfl) (by rfl) (by trivial)) (by rfl) (by rfl) (by rfl) ?_
  refine wot_o rfl (opt_assign_c (by rfl)) (by rfl) (by rfl) (by rfl) ?_
  refine wot_nil ?_
  refine wct_region_seq (by simp) ?_
  refine wot_c hTb rfl (call_bin (by rfl) (by rfl)) (by exact Drs.nil) (pu10) (by exact Cl.v _) (by rfl) (by rfl) (by rfl) ?_
  refine wot_o rfl (opt_assign (by rfl) (by rfl)) (by rfl) (by rfl) (by rfl) ?_
  refine wot_nil ?_
  (refine wct_assoc ?_)
  refine wct_region_seq (by simp) ?_
  refine wot_o rfl (opt_move (by rfl) (by rfl)) (by rfl) (by rfl) (by rfl) ?_
  refine wot_o rfl (opt_not (by rfl) (by rfl)) (by rfl) (by rfl) (by rfl) ?_
  refine wot_nil ?_
  refine wct_ifb_seq (by rfl) (by rfl) (fun c1 => ?_) (fun c1 => ?_)
  · (refine wct_assoc ?_)
    try simp only [Int.toNat_natCast] at c1
    exact absurd c1 (by decide)
  · (refine wct_skip_seq ?_)
    try simp only [Int.toNat_natCast] at c1
    refine wct_region_seq (by simp) ?_
    refine wot_o (x := Enc.tv (⟨L⟩ : Raw)) rfl (opt_as (by exact opt_load_fp_row (by rfl) (by rfl) (by rfl)) (by rfl)) (by rfl) (by rfl) (by rfl) ?_
    refine wot_ce hTb rfl (call_bin (by rfl) (by rfl)) (by refine Drs.cons (by exact Dr.cl (by exact Enc.cl _)) ?_; exact Drs.nil) (pu11s (L := L) hL) (by (rintro r ⟨x, rfl, h⟩; exact Enc.cl x)) (by rfl) (by rfl) (by rfl) ?_
    rintro r ⟨c, rfl, hf, hr200⟩
    refine wot_o rfl (opt_alloc (by rfl)) (by rfl) (by rfl) (by rfl) ?_
    refine wot_of0 rfl (by exact opt_store_row (by rfl) (by rfl) (by rfl) (by rfl) (by rfl) (by trivial) (by rfl) (by rfl) (by rfl)) (EffOk.pure hX) (by rfl) (by rfl) ?_
    refine wot_nil ?_
    refine wct_region_seq (by simp) ?_
    refine wot_o (x := Enc.tv c) rfl (opt_as (by exact opt_load_row (by rfl) (by rfl) (by rfl) (by rfl) (by rfl)) (by rfl)) (by rfl) (by rfl) (by rfl) ?_
    refine wot_ce hTb rfl (call_bin (by rfl) (by rfl)) (by refine Drs.cons (by exact Dr.cl (by exact Enc.cl _)) ?_; exact Drs.nil) (pu12 hf) (by (rintro r ⟨x, rfl, h⟩; exact Enc.cl x)) (by rfl) (by rfl) (by rfl) ?_
    rintro r ⟨y, rfl, hy⟩
    refine wot_o rfl (opt_alloc (by rfl)) (by rfl) (by rfl) (by rfl) ?_
    refine wot_of0 rfl (by exact opt_store_row (by rfl) (by rfl) (by rfl) (by rfl) (by rfl) (by trivial) (by rfl) (by rfl) (by rfl)) (EffOk.pure hX) (by rfl) (by rfl) ?_
    refine wot_nil ?_
    (refine wct_assoc ?_)
    have hli := hy.li
    have hlo := hy.lo
    have hnb := hf.nb
    have hK := Nat.mod_lt z0 hnb.1
    have hKz := Nat.mod_le z0 c.b.length
    have hll1 : ∀ l ∈ y.in_, l.length ≤ 2 ^ 20 := fun l hl => by obtain ⟨b, hb, rfl⟩ := List.mem_iff_getElem.1 hl; have := (hy.ok b (by omega)).1.len hf.rg.2; simp [at', hb] at this; omega
    have hll2 : ∀ l ∈ y.out, l.length ≤ 2 ^ 20 := fun l hl => by obtain ⟨b, hb, rfl⟩ := List.mem_iff_getElem.1 hl; have := (hy.ok b (by omega)).2.len hf.rg.2; simp [at', hb] at this; omega
    refine wct_region_seq (by simp) ?_
    refine wot_o rfl (by exact opt_fieldAddr_pt (by rfl) (by rfl) (by rfl) (by rfl)) (by rfl) (by rfl) (by rfl) ?_
    refine wot_o rfl (by exact opt_load_pt_1 (by rfl) (by rfl) (by rfl) (by rfl)) (by rfl) (by rfl) (by rfl) ?_
    refine wot_o rfl (by exact opt_len_fz (by rfl) (by rfl) (by rfl)) (by rfl) (by rfl) (by rfl) ?_
    refine wot_o rfl (by exact opt_fieldAddr_pt (by rfl) (by rfl) (by rfl) (by rfl)) (by rfl) (by rfl) (by rfl) ?_
    refine wot_o rfl (by exact opt_load_pt_1 (by rfl) (by rfl) (by rfl) (by rfl)) (by rfl) (by rfl) (by rfl) ?_
    refine wot_o rfl (by exact opt_len_fz (by rfl) (by rfl) (by rfl)) (by rfl) (by rfl) (by rfl) ?_
    refine wot_o rfl (opt_cmp (by rfl) (by rfl) (by rfl) (by rfl) (by rfl)) (by rfl) (by rfl) (by rfl) ?_
    refine wot_o rfl (opt_move (by rfl) (by rfl)) (by rfl) (by rfl) (by rfl) ?_
    refine wot_split (d := 29) (by rfl) (fun g8 => ?_) (fun g8 => ?_)
    · refine wot_sg (by rfl) (by rfl) (by rfl) (by rfl) (by rfl) (by rfl) ?_
      refine wot_sg (by rfl) (by rfl) (by rfl) (by rfl) (by rfl) (by rfl) ?_
      refine wot_sg (by rfl) (by rfl) (by rfl) (by rfl) (by rfl) (by rfl) ?_
      refine wot_sg (by rfl) (by rfl) (by rfl) (by rfl) (by rfl) (by rfl) ?_
      refine wot_sg (by rfl) (by rfl) (by rfl) (by rfl) (by rfl) (by rfl) ?_
      refine wot_sg (by rfl) (by rfl) (by rfl) (by rfl) (by rfl) (by rfl) ?_
      refine wot_sg (by rfl) (by rfl) (by rfl) (by rfl) (by rfl) (by rfl) ?_
      refine wot_o rfl (by exact opt_pick_t (by rfl) (by rfl) (by rfl) (by rfl) (by rfl) (by rfl) (by rfl)) (by rfl) (by rfl) (by rfl) ?_
      refine wot_nil ?_
      refine wct_tt_seq (by rfl) (by rfl) ?_
      (refine wct_assoc ?_)
      refine wct_region_seq (by simp) ?_
      refine wot_o rfl (opt_assign_c (by rfl)) (by rfl) (by rfl) (by rfl) ?_
      refine wot_nil ?_
      (refine wct_ret_seq ?_)
      exfalso; omega
    · refine wot_og rfl (by exact opt_fieldAddr_pt (by rfl) (by rfl) (by rfl) (by rfl)) (by rfl) (by rfl) (by rfl) (by rfl) (by rfl) (by rfl) ?_
      refine wot_og rfl (by exact opt_load_pt_1 (by rfl) (by rfl) (by rfl) (by rfl)) (by rfl) (by rfl) (by rfl) (by rfl) (by rfl) (by rfl) ?_
      refine wot_og rfl (by exact opt_len_fz (by rfl) (by rfl) (by rfl)) (by rfl) (by rfl) (by rfl) (by rfl) (by rfl) (by rfl) ?_
      refine wot_og rfl (by exact opt_fieldAddr_pt (by rfl) (by rfl) (by rfl) (by rfl)) (by rfl) (by rfl) (by rfl) (by rfl) (by rfl) (by rfl) ?_
      refine wot_og rfl (by exact opt_load_pt_1 (by rfl) (by rfl) (by rfl) (by rfl)) (by rfl) (by rfl) (by rfl) (by rfl) (by rfl) (by rfl) ?_
      refine wot_og rfl (by exact opt_len_fz (by rfl) (by rfl) (by rfl)) (by rfl) (by rfl) (by rfl) (by rfl) (by rfl) (by rfl) ?_
      refine wot_og rfl (opt_cmp (by rfl) (by rfl) (by rfl) (by rfl) (by rfl)) (by rfl) (by rfl) (by rfl) (by rfl) (by rfl) (by rfl) ?_
      refine wot_o rfl (by exact opt_pick_f (by rfl) (by rfl) (by rfl) (by rfl) (by rfl) (by rfl) (by rfl)) (by rfl) (by rfl) (by rfl) ?_
      refine wot_nil ?_
      refine wct_if_seq (by rfl) (by rfl) (fun c2 => ?_) (fun c2 => ?_)
      · (refine wct_assoc ?_)
        try simp only [Int.toNat_natCast] at c2
        refine wct_region_seq (by simp) ?_
        refine wot_o rfl (opt_assign_c (by rfl)) (by rfl) (by rfl) (by rfl) ?_
        refine wot_nil ?_
        (refine wct_ret_seq ?_)
        exfalso; omega
      · (refine wct_skip_seq ?_)
        try simp only [Int.toNat_natCast] at c2
        refine wct_draw_seq (by kernel_rfl) (u := []) (by kernel_rfl) ?_
        refine wtt_o rfl (by exact opt_index_fpa (by rfl) (by rfl) (by rfl) (by rfl) (by omega) (by omega)) (by rfl) (by rfl) (by rfl) ?_
        refine wtt_o rfl (by exact opt_load_fp_1 (by rfl) (by rfl) (by rfl)) (by rfl) (by rfl) (by rfl) ?_
        refine wtt_o rfl (opt_conv (by rfl) (by rfl) (convU8n (by omega)) (by rfl) (by rfl)) (by rfl) (by rfl) (by rfl) ?_
        refine wtt_o rfl (by exact opt_fieldAddr_pt (by rfl) (by rfl) (by rfl) (by rfl)) (by rfl) (by rfl) (by rfl) ?_
        refine wtt_o rfl (by exact opt_load_pt_1 (by rfl) (by rfl) (by rfl) (by rfl)) (by rfl) (by rfl) (by rfl) ?_
        refine wtt_o rfl (by exact opt_len_fz (by rfl) (by rfl) (by rfl)) (by rfl) (by rfl) (by rfl) ?_
        refine wtt_o rfl (by exact opt_remNN (by rfl) (by rfl) (by rfl) (by rfl) (by omega)) (by rfl) (by rfl) (by rfl) ?_
        refine wtt_o rfl (by exact opt_index_fpa (by rfl) (by rfl) (by rfl) (by rfl) (by omega) (by omega)) (by rfl) (by rfl) (by rfl) ?_
        refine wtt_o rfl (by exact opt_load_fp_1 (by rfl) (by rfl) (by rfl)) (by rfl) (by rfl) (by rfl) ?_
        refine wtt_o rfl (opt_assign (by rfl) (by rfl)) (by rfl) (by rfl) (by rfl) ?_
        refine wtt_o rfl (opt_assign (by rfl) (by rfl)) (by rfl) (by rfl) (by rfl) ?_
        refine wtt_nil ?_
        refine ⟨trivial, ?_⟩
        have hok := hy.ok (z0 % c.b.length) hK
        refine wct_region_seq (by simp) ?_
        refine wot_o rfl (by exact opt_fieldAddr_pt (by rfl) (by rfl) (by rfl) (by rfl)) (by rfl) (by rfl) (by rfl) ?_
        refine wot_o rfl (by exact opt_load_pt_1 (by rfl) (by rfl) (by rfl) (by rfl)) (by rfl) (by rfl) (by rfl) ?_
        refine wot_o rfl (opt_move (by rfl) (by rfl)) (by rfl) (by rfl) (by rfl) ?_
        refine wot_o rfl (by exact opt_index_lstN (by rfl) (by rfl) (by rfl) (by rfl) (by omega) (by rfl)) (by rfl) (by rfl) (by rfl) ?_
        refine wot_o (x := lst false (at' y.in_ (z0 % c.b.length))) rfl (opt_as (by exact opt_load_fp_1 (by rfl) (by rfl) (by rfl)) (by rfl)) (by rfl) (by rfl) (by rfl) ?_
        refine wot_o rfl (opt_assign (by rfl) (by rfl)) (by rfl) (by rfl) (by rfl) ?_
        refine wot_nil ?_
        (refine wct_assoc ?_)
        refine wct_region_seq (by simp) ?_
        refine wot_o rfl (opt_move (by rfl) (by rfl)) (by rfl) (by rfl) (by rfl) ?_
        refine wot_nil ?_
        refine wct_ifb_seq (by rfl) (by rfl) (fun c3 => ?_) (fun c3 => ?_)
        · (skip)
          try simp only [Int.toNat_natCast] at c3
          exact absurd (c3.symm.trans ho) (by decide)
        · (refine wct_skip_seq ?_; refine wct_assoc ?_)
          try simp only [Int.toNat_natCast] at c3
          refine wct_region_seq (by simp) ?_
          refine wot_o rfl (opt_move (by rfl) (by rfl)) (by rfl) (by rfl) (by rfl) ?_
          refine wot_o rfl (by exact opt_len_fz (by rfl) (by rfl) (by rfl)) (by rfl) (by rfl) (by rfl) ?_
          refine wot_o rfl (opt_cmp (by rfl) (by rfl) (by rfl) (by rfl) (by rfl)) (by rfl) (by rfl) (by rfl) ?_
          refine wot_nil ?_
          refine wct_if_seq (by rfl) (by rfl) (fun c4 => ?_) (fun c4 => ?_)
          · (refine wct_assoc ?_)
            try simp only [Int.toNat_natCast] at c4
            refine wct_region_seq (by simp) ?_
            refine wot_o rfl (opt_move (by rfl) (by rfl)) (by rfl) (by rfl) (by rfl) ?_
            refine wot_o rfl (opt_assign (by rfl) (by rfl)) (by rfl) (by rfl) (by rfl) ?_
            refine wot_nil ?_
            (refine wct_ret_seq ?_)
            refine fin_1c (by simp) rfl (by rfl) (by exact Cl.v _) ?_
            rfl
          · (refine wct_skip_seq ?_)
            try simp only [Int.toNat_natCast] at c4
            have hln : 0 < (at' y.in_ (z0 % c.b.length)).length := by omega
            have hN := Nat.mod_lt z1 hln
            have hmem := at_mem (xs := at' y.in_ (z0 % c.b.length)) (k := z1 % (at' y.in_ (z0 % c.b.length)).length) hN
            have hir := hok.1.1 _ hmem
            refine wct_region_seq (by simp) ?_
            refine wot_o rfl (opt_assign_c (by rfl)) (by rfl) (by rfl) (by rfl) ?_
            refine wot_nil ?_
            (refine wct_assoc ?_)
            refine wct_region_seq (by simp) ?_
            refine wot_o rfl (opt_move (by rfl) (by rfl)) (by rfl) (by rfl) (by rfl) ?_
            refine wot_nil ?_
            refine wct_ifb_seq (by rfl) (by rfl) (fun c5 => ?_) (fun c5 => ?_)
            · (skip)
              try simp only [Int.toNat_natCast] at c5
              exact absurd (c5.symm.trans ho) (by decide)
            · (refine wct_skip_seq ?_)
              try simp only [Int.toNat_natCast] at c5
              obtain ⟨V, hV⟩ : ∃ V : Int, V = at' (at' y.in_ (z0 % c.b.length)) (z1 % (at' y.in_ (z0 % c.b.length)).length) := ⟨_, rfl⟩
              rw [← hV] at hir hmem
              refine wct_draw_seq (by kernel_rfl) (u := []) (by kernel_rfl) ?_
              refine wtt_o rfl (by exact opt_load_row (by rfl) (by rfl) (by rfl) (by rfl) (by rfl)) (by rfl) (by rfl) (by rfl) ?_
              refine wtt_o rfl (by exact opt_load_row (by rfl) (by rfl) (by rfl) (by rfl) (by rfl)) (by rfl) (by rfl) (by rfl) ?_
              refine wtt_o rfl (opt_move (by rfl) (by rfl)) (by rfl) (by rfl) (by rfl) ?_
              refine wtt_o rfl (opt_move (by rfl) (by rfl)) (by rfl) (by rfl) (by rfl) ?_
              refine wtt_o rfl (opt_conv (by rfl) (by rfl) (conv35n rfl (by omega)) (by rfl) (by rfl)) (by rfl) (by rfl) (by rfl) ?_
              refine wtt_o rfl (opt_move (by rfl) (by rfl)) (by rfl) (by rfl) (by rfl) ?_
              refine wtt_o rfl (opt_move (by rfl) (by rfl)) (by rfl) (by rfl) (by rfl) ?_
              refine wtt_o rfl (opt_conv (by rfl) (by rfl) (convU8n (by omega)) (by rfl) (by rfl)) (by rfl) (by rfl) (by rfl) ?_
              refine wtt_o rfl (opt_move (by rfl) (by rfl)) (by rfl) (by rfl) (by rfl) ?_
              refine wtt_o rfl (by exact opt_len_fz (by rfl) (by rfl) (by rfl)) (by rfl) (by rfl) (by rfl) ?_
              refine wtt_o rfl (by exact opt_remNN (by rfl) (by rfl) (by rfl) (by rfl) (by omega)) (by rfl) (by rfl) (by rfl) ?_
              refine wtt_o rfl (opt_index_lstN (by rfl) (by rfl) (by rfl) (by rfl) hN (by rfl)) (by rfl) (by rfl) (by rfl) ?_
              refine wtt_o rfl (opt_load_V hV (opt_load_fp_1 (by rfl) (by rfl) (by rfl))) (by rfl) (by rfl) (by rfl) ?_
              refine wtt_o rfl (opt_add (by rfl) (by rfl) (by rfl) (by rfl) (by constructor <;> omega)) (by rfl) (by rfl) (by rfl) ?_
              refine wtt_o rfl (opt_conv (by rfl) (by rfl) (conv35n (n := V.toNat + 1) (by omega) (by omega)) (by rfl) (by rfl)) (by rfl) (by rfl) (by rfl) ?_
              refine wtt_o (x := Enc.tv (⟨0, z0 % c.b.length, V.toNat + 1⟩ : Chg3)) rfl (opt_as (opt_build (by rfl) (by rfl) (by rfl) (by rfl)) (by rfl)) (by rfl) (by rfl) (by rfl) ?_
              refine wtt_c hTb rfl (call_bin (by rfl) (by rfl)) (by refine Drs.cons (by exact Dr.cl (by exact Cl.agg (cls_cl _))) ?_; refine Drs.cons (by exact Dr.cl (by exact Cl.agg (cls_cl _))) ?_; refine Drs.cons (by exact Dr.cl (by exact Enc.cl _)) ?_; exact Drs.nil) (pu15 (kd := 0) (bl := z0 % c.b.length) (rg := V.toNat + 1) hf hli hlo hll1 hll2 (by decide) (by omega) (by omega)) (by exact Enc.cl _) (by rfl) (by rfl) (by rfl) ?_
              refine wtt_o rfl (opt_alloc (by rfl)) (by rfl) (by rfl) (by rfl) ?_
              refine wtt_of0 rfl (by exact opt_store_row (by rfl) (by rfl) (by rfl) (by rfl) (by rfl) (by trivial) (by rfl) (by rfl) (by rfl)) (EffOk.pure hX) (by rfl) (by rfl) ?_
              refine wtt_nil ?_
              refine ⟨trivial, ?_⟩
              have hneed := hy.need (k := 0) (b := z0 % c.b.length) (r := V.toNat + 1) (i := V) (by decide) hK (by omega) hmem hir.2 hir.1
              have hc1 := (chg_len (c := c) (x := y) (kd := 0) (bl := z0 % c.b.length) (rg := V.toNat + 1)).1
              have hc2 := (chg_len (c := c) (x := y) (kd := 0) (bl := z0 % c.b.length) (rg := V.toNat + 1)).2
              have pu17h : Pu Tryd.prog 17 [Enc.tv c, Enc.tv (chg c y 0 (z0 % c.b.length) (V.toNat + 1))] (Eq (ti 100)) := by
                  have hp := pu17 (x := chg c y 0 (z0 % c.b.length) (V.toNat + 1)) hf (by omega) (by omega)
                  rwa [if_neg hneed] at hp
              refine wct_region_seq (by simp) ?_
              refine wot_o (x := Enc.tv c) rfl (opt_as (by exact opt_load_row (by rfl) (by rfl) (by rfl) (by rfl) (by rfl)) (by rfl)) (by rfl) (by rfl) (by rfl) ?_
              refine wot_o (x := Enc.tv (chg c y 0 (z0 % c.b.length) (V.toNat + 1))) rfl (opt_as (by exact opt_load_row (by rfl) (by rfl) (by rfl) (by rfl) (by rfl)) (by rfl)) (by rfl) (by rfl) (by rfl) ?_
              refine wot_c hTb rfl (call_bin (by rfl) (by rfl)) (by refine Drs.cons (by exact Dr.cl (by exact Enc.cl _)) ?_; refine Drs.cons (by exact Dr.cl (by exact Enc.cl _)) ?_; exact Drs.nil) (pu17h) (by exact Cl.v _) (by rfl) (by rfl) (by rfl) ?_
              refine wot_o rfl (opt_cmp (by rfl) (by rfl) (by rfl) (by rfl) (by rfl)) (by rfl) (by rfl) (by rfl) ?_
              refine wot_o rfl (opt_move (by rfl) (by rfl)) (by rfl) (by rfl) (by rfl) ?_
              refine wot_split (d := 84) (by rfl) (fun g5 => ?_) (fun g5 => ?_)
              · refine wot_og rfl (opt_move (by rfl) (by rfl)) (by rfl) (by rfl) (by rfl) (by rfl) (by rfl) (by rfl) ?_
                refine wot_o rfl (by exact opt_pick_t (by rfl) (by rfl) (by rfl) (by rfl) (by rfl) (by rfl) (by rfl)) (by rfl) (by rfl) (by rfl) ?_
                refine wot_o rfl (opt_assign (by rfl) (by rfl)) (by rfl) (by rfl) (by rfl) ?_
                refine wot_nil ?_
                (refine wct_ret ?_)
                refine fin_1c (by simp) rfl (by rfl) (by exact Cl.v _) ?_
                rfl
              · refine wot_sg (by rfl) (by rfl) (by rfl) (by rfl) (by rfl) (by rfl) ?_
                refine wot_o rfl (by exact opt_pick_t (by rfl) (by rfl) (by rfl) (by rfl) (by rfl) (by rfl) (by exact decide_eq_true (by assumption))) (by rfl) (by rfl) (by rfl) ?_
                refine wot_o rfl (opt_assign (by rfl) (by rfl)) (by rfl) (by rfl) (by rfl) ?_
                refine wot_nil ?_
                (refine wct_ret ?_)
                exact absurd g5 (by decide)
theorem pu5b {L : List U8} {z0 z1 : Nat} {o : Bool} (hL : LOk L) (h0 : z0 < 256) (h1 : z1 < 256) (ho : o = true) : Pu Tryd.prog 5 [Enc.tv (⟨L⟩ : Raw), .agg [.v (.int .u8 (z0 : Int)), .v (.int .u8 (z1 : Int))], tb o] (Eq (tb true)) := by
  refine pu_fn fn5 (by rfl) (by rfl) (by rfl) fun X hX hTb => ?_
  refine wct_region_seq (by simp) ?_
  refine wot_o rfl (opt_box_fz (by rfl) (by rfl) (by trivial)) (by rfl) (by rfl) (by rfl) ?_
  refine wot_o rfl (opt_box_fz (by rfl) (by rfl) (by trivial)) (by rfl) (by rfl) (by rfl) ?_
  refine wot_o rfl (opt_assign_c (by rfl)) (by rfl) (by rfl) (by rfl) ?_
  refine wot_nil ?_
  refine wct_region_seq (by simp) ?_
  refine wot_c hTb rfl (call_bin (by rfl) (by rfl)) (by exact Drs.nil) (pu10) (by exact Cl.v _) (by rfl) (by rfl) (by rfl) ?_
  refine wot_o rfl (opt_assign (by rfl) (by rfl)) (by rfl) (by rfl) (by rfl) ?_
  refine wot_nil ?_
  (refine wct_assoc ?_)
  refine wct_region_seq (by simp) ?_
  refine wot_o rfl (opt_move (by rfl) (by rfl)) (by rfl) (by rfl) (by rfl) ?_
  refine wot_o rfl (opt_not (by rfl) (by rfl)) (by rfl) (by rfl) (by rfl) ?_
  refine wot_nil ?_
  refine wct_ifb_seq (by rfl) (by rfl) (fun c1 => ?_) (fun c1 => ?_)
  · (refine wct_assoc ?_)
    try simp only [Int.toNat_natCast] at c1
    exact absurd c1 (by decide)
  · (refine wct_skip_seq ?_)
    try simp only [Int.toNat_natCast] at c1
    refine wct_region_seq (by simp) ?_
    refine wot_o (x := Enc.tv (⟨L⟩ : Raw)) rfl (opt_as (by exact opt_load_fp_row (by rfl) (by rfl) (by rfl)) (by rfl)) (by rfl) (by rfl) (by rfl) ?_
    refine wot_ce hTb rfl (call_bin (by rfl) (by rfl)) (by refine Drs.cons (by exact Dr.cl (by exact Enc.cl _)) ?_; exact Drs.nil) (pu11s (L := L) hL) (by (rintro r ⟨x, rfl, h⟩; exact Enc.cl x)) (by rfl) (by rfl) (by rfl) ?_
    rintro r ⟨c, rfl, hf, hr200⟩
    refine wot_o rfl (opt_alloc (by rfl)) (by rfl) (by rfl) (by rfl) ?_
    refine wot_of0 rfl (by exact opt_store_row (by rfl) (by rfl) (by rfl) (by rfl) (by rfl) (by trivial) (by rfl) (by rfl) (by rfl)) (EffOk.pure hX) (by rfl) (by rfl) ?_
    refine wot_nil ?_
    refine wct_region_seq (by simp) ?_
    refine wot_o (x := Enc.tv c) rfl (opt_as (by exact opt_load_row (by rfl) (by rfl) (by rfl) (by rfl) (by rfl)) (by rfl)) (by rfl) (by rfl) (by rfl) ?_
    refine wot_ce hTb rfl (call_bin (by rfl) (by rfl)) (by refine Drs.cons (by exact Dr.cl (by exact Enc.cl _)) ?_; exact Drs.nil) (pu12 hf) (by (rintro r ⟨x, rfl, h⟩; exact Enc.cl x)) (by rfl) (by rfl) (by rfl) ?_
    rintro r ⟨y, rfl, hy⟩
    refine wot_o rfl (opt_alloc (by rfl)) (by rfl) (by rfl) (by rfl) ?_
    refine wot_of0 rfl (by exact opt_store_row (by rfl) (by rfl) (by rfl) (by rfl) (by rfl) (by trivial) (by rfl) (by rfl) (by rfl)) (EffOk.pure hX) (by rfl) (by rfl) ?_
    refine wot_nil ?_
    (refine wct_assoc ?_)
    have hli := hy.li
    have hlo := hy.lo
    have hnb := hf.nb
    have hK := Nat.mod_lt z0 hnb.1
    have hKz := Nat.mod_le z0 c.b.length
    have hll1 : ∀ l ∈ y.in_, l.length ≤ 2 ^ 20 := fun l hl => by obtain ⟨b, hb, rfl⟩ := List.mem_iff_getElem.1 hl; have := (hy.ok b (by omega)).1.len hf.rg.2; simp [at', hb] at this; omega
    have hll2 : ∀ l ∈ y.out, l.length ≤ 2 ^ 20 := fun l hl => by obtain ⟨b, hb, rfl⟩ := List.mem_iff_getElem.1 hl; have := (hy.ok b (by omega)).2.len hf.rg.2; simp [at', hb] at this; omega
    refine wct_region_seq (by simp) ?_
    refine wot_o rfl (by exact opt_fieldAddr_pt (by rfl) (by rfl) (by rfl) (by rfl)) (by rfl) (by rfl) (by rfl) ?_
    refine wot_o rfl (by exact opt_load_pt_1 (by rfl) (by rfl) (by rfl) (by rfl)) (by rfl) (by rfl) (by rfl) ?_
    refine wot_o rfl (by exact opt_len_fz (by rfl) (by rfl) (by rfl)) (by rfl) (by rfl) (by rfl) ?_
    refine wot_o rfl (by exact opt_fieldAddr_pt (by rfl) (by rfl) (by rfl) (by rfl)) (by rfl) (by rfl) (by rfl) ?_
    refine wot_o rfl (by exact opt_load_pt_1 (by rfl) (by rfl) (by rfl) (by rfl)) (by rfl) (by rfl) (by rfl) ?_
    refine wot_o rfl (by exact opt_len_fz (by rfl) (by rfl) (by rfl)) (by rfl) (by rfl) (by rfl) ?_
    refine wot_o rfl (opt_cmp (by rfl) (by rfl) (by rfl) (by rfl) (by rfl)) (by rfl) (by rfl) (by rfl) ?_
    refine wot_o rfl (opt_move (by rfl) (by rfl)) (by rfl) (by rfl) (by rfl) ?_
    refine wot_split (d := 29) (by rfl) (fun g8 => ?_) (fun g8 => ?_)
    · refine wot_sg (by rfl) (by rfl) (by rfl) (by rfl) (by rfl) (by rfl) ?_
      refine wot_sg (by rfl) (by rfl) (by rfl) (by rfl) (by rfl) (by rfl) ?_
      refine wot_sg (by rfl) (by rfl) (by rfl) (by rfl) (by rfl) (by rfl) ?_
      refine wot_sg (by rfl) (by rfl) (by rfl) (by rfl) (by rfl) (by rfl) ?_
      refine wot_sg (by rfl) (by rfl) (by rfl) (by rfl) (by rfl) (by rfl) ?_
      refine wot_sg (by rfl) (by rfl) (by rfl) (by rfl) (by rfl) (by rfl) ?_
      refine wot_sg (by rfl) (by rfl) (by rfl) (by rfl) (by rfl) (by rfl) ?_
      refine wot_o rfl (by exact opt_pick_t (by rfl) (by rfl) (by rfl) (by rfl) (by rfl) (by rfl) (by rfl)) (by rfl) (by rfl) (by rfl) ?_
      refine wot_nil ?_
      refine wct_tt_seq (by rfl) (by rfl) ?_
      (refine wct_assoc ?_)
      refine wct_region_seq (by simp) ?_
      refine wot_o rfl (opt_assign_c (by rfl)) (by rfl) (by rfl) (by rfl) ?_
      refine wot_nil ?_
      (refine wct_ret_seq ?_)
      exfalso; omega
    · refine wot_og rfl (by exact opt_fieldAddr_pt (by rfl) (by rfl) (by rfl) (by rfl)) (by rfl) (by rfl) (by rfl) (by rfl) (by rfl) (by rfl) ?_
      refine wot_og rfl (by exact opt_load_pt_1 (by rfl) (by rfl) (by rfl) (by rfl)) (by rfl) (by rfl) (by rfl) (by rfl) (by rfl) (by rfl) ?_
      refine wot_og rfl (by exact opt_len_fz (by rfl) (by rfl) (by rfl)) (by rfl) (by rfl) (by rfl) (by rfl) (by rfl) (by rfl) ?_
      refine wot_og rfl (by exact opt_fieldAddr_pt (by rfl) (by rfl) (by rfl) (by rfl)) (by rfl) (by rfl) (by rfl) (by rfl) (by rfl) (by rfl) ?_
      refine wot_og rfl (by exact opt_load_pt_1 (by rfl) (by rfl) (by rfl) (by rfl)) (by rfl) (by rfl) (by rfl) (by rfl) (by rfl) (by rfl) ?_
      refine wot_og rfl (by exact opt_len_fz (by rfl) (by rfl) (by rfl)) (by rfl) (by rfl) (by rfl) (by rfl) (by rfl) (by rfl) ?_
      refine wot_og rfl (opt_cmp (by rfl) (by rfl) (by rfl) (by rfl) (by rfl)) (by rfl) (by rfl) (by rfl) (by rfl) (by rfl) (by rfl) ?_
      refine wot_o rfl (by exact opt_pick_f (by rfl) (by rfl) (by rfl) (by rfl) (by rfl) (by rfl) (by rfl)) (by rfl) (by rfl) (by rfl) ?_
      refine wot_nil ?_
      refine wct_if_seq (by rfl) (by rfl) (fun c2 => ?_) (fun c2 => ?_)
      · (refine wct_assoc ?_)
        try simp only [Int.toNat_natCast] at c2
        refine wct_region_seq (by simp) ?_
        refine wot_o rfl (opt_assign_c (by rfl)) (by rfl) (by rfl) (by rfl) ?_
        refine wot_nil ?_
        (refine wct_ret_seq ?_)
        exfalso; omega
      · (refine wct_skip_seq ?_)
        try simp only [Int.toNat_natCast] at c2
        refine wct_draw_seq (by kernel_rfl) (u := []) (by kernel_rfl) ?_
        refine wtt_o rfl (by exact opt_index_fpa (by rfl) (by rfl) (by rfl) (by rfl) (by omega) (by omega)) (by rfl) (by rfl) (by rfl) ?_
        refine wtt_o rfl (by exact opt_load_fp_1 (by rfl) (by rfl) (by rfl)) (by rfl) (by rfl) (by rfl) ?_
        refine wtt_o rfl (opt_conv (by rfl) (by rfl) (convU8n (by omega)) (by rfl) (by rfl)) (by rfl) (by rfl) (by rfl) ?_
        refine wtt_o rfl (by exact opt_fieldAddr_pt (by rfl) (by rfl) (by rfl) (by rfl)) (by rfl) (by rfl) (by rfl) ?_
        refine wtt_o rfl (by exact opt_load_pt_1 (by rfl) (by rfl) (by rfl) (by rfl)) (by rfl) (by rfl) (by rfl) ?_
        refine wtt_o rfl (by exact opt_len_fz (by rfl) (by rfl) (by rfl)) (by rfl) (by rfl) (by rfl) ?_
        refine wtt_o rfl (by exact opt_remNN (by rfl) (by rfl) (by rfl) (by rfl) (by omega)) (by rfl) (by rfl) (by rfl) ?_
        refine wtt_o rfl (by exact opt_index_fpa (by rfl) (by rfl) (by rfl) (by rfl) (by omega) (by omega)) (by rfl) (by rfl) (by rfl) ?_
        refine wtt_o rfl (by exact opt_load_fp_1 (by rfl) (by rfl) (by rfl)) (by rfl) (by rfl) (by rfl) ?_
        refine wtt_o rfl (opt_assign (by rfl) (by rfl)) (by rfl) (by rfl) (by rfl) ?_
        refine wtt_o rfl (opt_assign (by rfl) (by rfl)) (by rfl) (by rfl) (by rfl) ?_
        refine wtt_nil ?_
        refine ⟨trivial, ?_⟩
        have hok := hy.ok (z0 % c.b.length) hK
        refine wct_region_seq (by simp) ?_
        refine wot_o rfl (by exact opt_fieldAddr_pt (by rfl) (by rfl) (by rfl) (by rfl)) (by rfl) (by rfl) (by rfl) ?_
        refine wot_o rfl (by exact opt_load_pt_1 (by rfl) (by rfl) (by rfl) (by rfl)) (by rfl) (by rfl) (by rfl) ?_
        refine wot_o rfl (opt_move (by rfl) (by rfl)) (by rfl) (by rfl) (by rfl) ?_
        refine wot_o rfl (by exact opt_index_lstN (by rfl) (by rfl) (by rfl) (by rfl) (by omega) (by rfl)) (by rfl) (by rfl) (by rfl) ?_
        refine wot_o (x := lst false (at' y.in_ (z0 % c.b.length))) rfl (opt_as (by exact opt_load_fp_1 (by rfl) (by rfl) (by rfl)) (by rfl)) (by rfl) (by rfl) (by rfl) ?_
        refine wot_o rfl (opt_assign (by rfl) (by rfl)) (by rfl) (by rfl) (by rfl) ?_
        refine wot_nil ?_
        (refine wct_assoc ?_)
        refine wct_region_seq (by simp) ?_
        refine wot_o rfl (opt_move (by rfl) (by rfl)) (by rfl) (by rfl) (by rfl) ?_
        refine wot_nil ?_
        refine wct_ifb_seq (by rfl) (by rfl) (fun c3 => ?_) (fun c3 => ?_)
        · (skip)
          try simp only [Int.toNat_natCast] at c3
          refine wct_region_seq (by simp) ?_
          refine wot_o rfl (by exact opt_fieldAddr_pt (by rfl) (by rfl) (by rfl) (by rfl)) (by rfl) (by rfl) (by rfl) ?_
          refine wot_o rfl (by exact opt_load_pt_1 (by rfl) (by rfl) (by rfl) (by rfl)) (by rfl) (by rfl) (by rfl) ?_
          refine wot_o rfl (opt_move (by rfl) (by rfl)) (by rfl) (by rfl) (by rfl) ?_
          refine wot_o rfl (by exact opt_index_lstN (by rfl) (by rfl) (by rfl) (by rfl) (by omega) (by rfl)) (by rfl) (by rfl) (by rfl) ?_
          refine wot_o (x := lst false (at' y.out (z0 % c.b.length))) rfl (opt_as (by exact opt_load_fp_1 (by rfl) (by rfl) (by rfl)) (by rfl)) (by rfl) (by rfl) (by rfl) ?_
          refine wot_o rfl (opt_assign (by rfl) (by rfl)) (by rfl) (by rfl) (by rfl) ?_
          refine wot_nil ?_
          (refine wct_assoc ?_)
          refine wct_region_seq (by simp) ?_
          refine wot_o rfl (opt_move (by rfl) (by rfl)) (by rfl) (by rfl) (by rfl) ?_
          refine wot_o rfl (by exact opt_len_fz (by rfl) (by rfl) (by rfl)) (by rfl) (by rfl) (by rfl) ?_
          refine wot_o rfl (opt_cmp (by rfl) (by rfl) (by rfl) (by rfl) (by rfl)) (by rfl) (by rfl) (by rfl) ?_
          refine wot_nil ?_
          refine wct_if_seq (by rfl) (by rfl) (fun c4 => ?_) (fun c4 => ?_)
          · (refine wct_assoc ?_)
            try simp only [Int.toNat_natCast] at c4
            refine wct_region_seq (by simp) ?_
            refine wot_o rfl (opt_move (by rfl) (by rfl)) (by rfl) (by rfl) (by rfl) ?_
            refine wot_o rfl (opt_assign (by rfl) (by rfl)) (by rfl) (by rfl) (by rfl) ?_
            refine wot_nil ?_
            (refine wct_ret_seq ?_)
            refine fin_1c (by simp) rfl (by rfl) (by exact Cl.v _) ?_
            rfl
          · (refine wct_skip_seq ?_)
            try simp only [Int.toNat_natCast] at c4
            have hln : 0 < (at' y.out (z0 % c.b.length)).length := by omega
            have hN := Nat.mod_lt z1 hln
            have hmem := at_mem (xs := at' y.out (z0 % c.b.length)) (k := z1 % (at' y.out (z0 % c.b.length)).length) hN
            have hir := hok.2.1 _ hmem
            refine wct_region_seq (by simp) ?_
            refine wot_o rfl (opt_assign_c (by rfl)) (by rfl) (by rfl) (by rfl) ?_
            refine wot_nil ?_
            (refine wct_assoc ?_)
            refine wct_region_seq (by simp) ?_
            refine wot_o rfl (opt_move (by rfl) (by rfl)) (by rfl) (by rfl) (by rfl) ?_
            refine wot_nil ?_
            refine wct_ifb_seq (by rfl) (by rfl) (fun c5 => ?_) (fun c5 => ?_)
            · (skip)
              try simp only [Int.toNat_natCast] at c5
              refine wct_region_seq (by simp) ?_
              refine wot_o rfl (opt_assign_c (by rfl)) (by rfl) (by rfl) (by rfl) ?_
              refine wot_nil ?_
              obtain ⟨V, hV⟩ : ∃ V : Int, V = at' (at' y.out (z0 % c.b.length)) (z1 % (at' y.out (z0 % c.b.length)).length) := ⟨_, rfl⟩
              rw [← hV] at hir hmem
              refine wct_draw_seq (by kernel_rfl) (u := []) (by kernel_rfl) ?_
              refine wtt_o rfl (by exact opt_load_row (by rfl) (by rfl) (by rfl) (by rfl) (by rfl)) (by rfl) (by rfl) (by rfl) ?_
              refine wtt_o rfl (by exact opt_load_row (by rfl) (by rfl) (by rfl) (by rfl) (by rfl)) (by rfl) (by rfl) (by rfl) ?_
              refine wtt_o rfl (opt_move (by rfl) (by rfl)) (by rfl) (by rfl) (by rfl) ?_
              refine wtt_o rfl (opt_move (by rfl) (by rfl)) (by rfl) (by rfl) (by rfl) ?_
              refine wtt_o rfl (opt_conv (by rfl) (by rfl) (conv35n rfl (by omega)) (by rfl) (by rfl)) (by rfl) (by rfl) (by rfl) ?_
              refine wtt_o rfl (opt_move (by rfl) (by rfl)) (by rfl) (by rfl) (by rfl) ?_
              refine wtt_o rfl (opt_move (by rfl) (by rfl)) (by rfl) (by rfl) (by rfl) ?_
              refine wtt_o rfl (opt_conv (by rfl) (by rfl) (convU8n (by omega)) (by rfl) (by rfl)) (by rfl) (by rfl) (by rfl) ?_
              refine wtt_o rfl (opt_move (by rfl) (by rfl)) (by rfl) (by rfl) (by rfl) ?_
              refine wtt_o rfl (by exact opt_len_fz (by rfl) (by rfl) (by rfl)) (by rfl) (by rfl) (by rfl) ?_
              refine wtt_o rfl (by exact opt_remNN (by rfl) (by rfl) (by rfl) (by rfl) (by omega)) (by rfl) (by rfl) (by rfl) ?_
              refine wtt_o rfl (opt_index_lstN (by rfl) (by rfl) (by rfl) (by rfl) hN (by rfl)) (by rfl) (by rfl) (by rfl) ?_
              refine wtt_o rfl (opt_load_V hV (opt_load_fp_1 (by rfl) (by rfl) (by rfl))) (by rfl) (by rfl) (by rfl) ?_
              refine wtt_o rfl (opt_add (by rfl) (by rfl) (by rfl) (by rfl) (by constructor <;> omega)) (by rfl) (by rfl) (by rfl) ?_
              refine wtt_o rfl (opt_conv (by rfl) (by rfl) (conv35n (n := V.toNat + 1) (by omega) (by omega)) (by rfl) (by rfl)) (by rfl) (by rfl) (by rfl) ?_
              refine wtt_o (x := Enc.tv (⟨1, z0 % c.b.length, V.toNat + 1⟩ : Chg3)) rfl (opt_as (opt_build (by rfl) (by rfl) (by rfl) (by rfl)) (by rfl)) (by rfl) (by rfl) (by rfl) ?_
              refine wtt_c hTb rfl (call_bin (by rfl) (by rfl)) (by refine Drs.cons (by exact Dr.cl (by exact Cl.agg (cls_cl _))) ?_; refine Drs.cons (by exact Dr.cl (by exact Cl.agg (cls_cl _))) ?_; refine Drs.cons (by exact Dr.cl (by exact Enc.cl _)) ?_; exact Drs.nil) (pu15 (kd := 1) (bl := z0 % c.b.length) (rg := V.toNat + 1) hf hli hlo hll1 hll2 (by decide) (by omega) (by omega)) (by exact Enc.cl _) (by rfl) (by rfl) (by rfl) ?_
              refine wtt_o rfl (opt_alloc (by rfl)) (by rfl) (by rfl) (by rfl) ?_
              refine wtt_of0 rfl (by exact opt_store_row (by rfl) (by rfl) (by rfl) (by rfl) (by rfl) (by trivial) (by rfl) (by rfl) (by rfl)) (EffOk.pure hX) (by rfl) (by rfl) ?_
              refine wtt_nil ?_
              refine ⟨trivial, ?_⟩
              have hneed := hy.need (k := 1) (b := z0 % c.b.length) (r := V.toNat + 1) (i := V) (by decide) hK (by omega) hmem hir.2 hir.1
              have hc1 := (chg_len (c := c) (x := y) (kd := 1) (bl := z0 % c.b.length) (rg := V.toNat + 1)).1
              have hc2 := (chg_len (c := c) (x := y) (kd := 1) (bl := z0 % c.b.length) (rg := V.toNat + 1)).2
              have pu17h : Pu Tryd.prog 17 [Enc.tv c, Enc.tv (chg c y 1 (z0 % c.b.length) (V.toNat + 1))] (Eq (ti 100)) := by
                  have hp := pu17 (x := chg c y 1 (z0 % c.b.length) (V.toNat + 1)) hf (by omega) (by omega)
                  rwa [if_neg hneed] at hp
              refine wct_region_seq (by simp) ?_
              refine wot_o (x := Enc.tv c) rfl (opt_as (by exact opt_load_row (by rfl) (by rfl) (by rfl) (by rfl) (by rfl)) (by rfl)) (by rfl) (by rfl) (by rfl) ?_
              refine wot_o (x := Enc.tv (chg c y 1 (z0 % c.b.length) (V.toNat + 1))) rfl (opt_as (by exact opt_load_row (by rfl) (by rfl) (by rfl) (by rfl) (by rfl)) (by rfl)) (by rfl) (by rfl) (by rfl) ?_
              refine wot_c hTb rfl (call_bin (by rfl) (by rfl)) (by refine Drs.cons (by exact Dr.cl (by exact Enc.cl _)) ?_; refine Drs.cons (by exact Dr.cl (by exact Enc.cl _)) ?_; exact Drs.nil) (pu17h) (by exact Cl.v _) (by rfl) (by rfl) (by rfl) ?_
              refine wot_o rfl (opt_cmp (by rfl) (by rfl) (by rfl) (by rfl) (by rfl)) (by rfl) (by rfl) (by rfl) ?_
              refine wot_o rfl (opt_move (by rfl) (by rfl)) (by rfl) (by rfl) (by rfl) ?_
              refine wot_split (d := 84) (by rfl) (fun g5 => ?_) (fun g5 => ?_)
              · refine wot_og rfl (opt_move (by rfl) (by rfl)) (by rfl) (by rfl) (by rfl) (by rfl) (by rfl) (by rfl) ?_
                refine wot_o rfl (by exact opt_pick_t (by rfl) (by rfl) (by rfl) (by rfl) (by rfl) (by rfl) (by rfl)) (by rfl) (by rfl) (by rfl) ?_
                refine wot_o rfl (opt_assign (by rfl) (by rfl)) (by rfl) (by rfl) (by rfl) ?_
                refine wot_nil ?_
                (refine wct_ret ?_)
                refine fin_1c (by simp) rfl (by rfl) (by exact Cl.v _) ?_
                rfl
              · refine wot_sg (by rfl) (by rfl) (by rfl) (by rfl) (by rfl) (by rfl) ?_
                refine wot_o rfl (by exact opt_pick_t (by rfl) (by rfl) (by rfl) (by rfl) (by rfl) (by rfl) (by exact decide_eq_true (by assumption))) (by rfl) (by rfl) (by rfl) ?_
                refine wot_o rfl (opt_assign (by rfl) (by rfl)) (by rfl) (by rfl) (by rfl) ?_
                refine wot_nil ?_
                (refine wct_ret ?_)
                exact absurd g5 (by decide)
            · (refine wct_skip_seq ?_)
              try simp only [Int.toNat_natCast] at c5
              exact absurd (ho.symm.trans c5) (by decide)
        · (refine wct_skip_seq ?_; refine wct_assoc ?_)
          try simp only [Int.toNat_natCast] at c3
          exact absurd (ho.symm.trans c3) (by decide)
theorem pu5 {L : List U8} {z0 z1 : Nat} {o : Bool} (hL : LOk L) (h0 : z0 < 256) (h1 : z1 < 256) : Pu Tryd.prog 5 [Enc.tv (⟨L⟩ : Raw), .agg [.v (.int .u8 (z0 : Int)), .v (.int .u8 (z1 : Int))], tb o] (Eq (tb true)) := by
  cases o
  · exact pu5a hL h0 h1 rfl
  · exact pu5b hL h0 h1 rfl
end Go.Ab
