/- The road to a card of this seat: G11. Each theorem holds for every input that its own premises speak of. -/
import Derived.Test.YtaaeeiheeihjaaaDoorG10
set_option linter.all false
namespace Go.Ab
open Go.Proofs
set_option maxRecDepth 100000 in
theorem conv915 (n : Int) : pureV Tryd.prog (convert 91 5 (.int .u64 n)) = some (.int .u8 (IntKind.u8.wrap n)) := by rfl
theorem conv915n {n : Nat} (h : n < 256) : pureV Tryd.prog (convert 91 5 (.int .u64 (n : Int))) = some (.int .u8 (n : Int)) := by
  rw [conv915]
  have hb : IntKind.u8.bits = 8 := rfl
  have hs : IntKind.u8.signed = false := rfl
  have : IntKind.u8.wrap (n : Int) = n := by
    unfold IntKind.wrap
    simp only [hb, hs, Bool.false_and]
    rw [Int.emod_eq_of_lt (by omega) (by omega)]
    simp
  rw [this]
theorem conv5m {n : Nat} (h : n < 256) : pureV Tryd.prog (convert 5 3 (.int .u8 (n : Int))) = some (.int .i64 (n : Int)) := by rw [conv5, wrap64n (by omega)]
theorem pu117 {n : Nat} (hn : n < 256) : Pu Tryd.prog 117 [.v (.int .u64 (n : Int))] (fun r => ∃ m : Nat, r = ti (m : Int) ∧ m < 256) := by
  refine pu_fn fn117 (by rfl) (by rfl) (by rfl) fun X hX hTb => ?_
  refine wct_region_seq (by simp) ?_
  refine wot_o rfl (opt_assign_c (by rfl)) (by rfl) (by rfl) (by rfl) ?_
  refine wot_nil ?_
  (refine wct_assoc ?_)
  refine wct_region_seq (by simp) ?_
  refine wot_o rfl (opt_move (by rfl) (by rfl)) (by rfl) (by rfl) (by rfl) ?_
  refine wot_o rfl (opt_cmp (by rfl) (by rfl) (by rfl) (by rfl) (by rfl)) (by rfl) (by rfl) (by rfl) ?_
  refine wot_nil ?_
  refine wct_if_seq (by rfl) (by rfl) (fun c1 => ?_) (fun c1 => ?_)
  · (refine wct_assoc ?_)
    try simp only [Int.toNat_natCast] at c1
    exfalso; omega
  · (refine wct_skip_seq ?_; refine wct_assoc ?_)
    try simp only [Int.toNat_natCast] at c1
    refine wct_region_seq (by simp) ?_
    refine wot_o rfl (opt_move (by rfl) (by rfl)) (by rfl) (by rfl) (by rfl) ?_
    refine wot_o rfl (opt_cmp (by rfl) (by rfl) (by rfl) (by rfl) (by rfl)) (by rfl) (by rfl) (by rfl) ?_
    refine wot_nil ?_
    refine wct_if_seq (by rfl) (by rfl) (fun c2 => ?_) (fun c2 => ?_)
    · (refine wct_assoc ?_)
      try simp only [Int.toNat_natCast] at c2
      exfalso; omega
    · (refine wct_skip_seq ?_; refine wct_assoc ?_)
      try simp only [Int.toNat_natCast] at c2
      refine wct_region_seq (by simp) ?_
      refine wot_o rfl (opt_move (by rfl) (by rfl)) (by rfl) (by rfl) (by rfl) ?_
      refine wot_o rfl (opt_cmp (by rfl) (by rfl) (by rfl) (by rfl) (by rfl)) (by rfl) (by rfl) (by rfl) ?_
      refine wot_nil ?_
      refine wct_if_seq (by rfl) (by rfl) (fun c3 => ?_) (fun c3 => ?_)
      · (refine wct_assoc ?_)
        try simp only [Int.toNat_natCast] at c3
        exfalso; omega
      · (refine wct_skip_seq ?_)
        try simp only [Int.toNat_natCast] at c3
        refine wct_region_seq (by simp) ?_
        refine wot_o rfl (opt_move (by rfl) (by rfl)) (by rfl) (by rfl) (by rfl) ?_
        refine wot_o rfl (opt_move (by rfl) (by rfl)) (by rfl) (by rfl) (by rfl) ?_
        refine wot_o rfl (opt_conv (by rfl) (by rfl) (conv915n hn) (by rfl) (by rfl)) (by rfl) (by rfl) (by rfl) ?_
        refine Exists.elim (strE (by rfl) (by rfl) (by rfl) (by rfl) (by kernel_rfl) (Nat.lt_of_lt_of_le hn (by decide +kernel))) fun m hm => wot_o rfl hm.2 (by rfl) (by rfl) (by rfl) ?_
        refine wot_o rfl (opt_conv (by rfl) (by rfl) (conv5m hm.1) (by rfl) (by rfl)) (by rfl) (by rfl) (by rfl) ?_
        refine wot_o rfl (opt_add (by rfl) (by rfl) (by rfl) (by rfl) (by have := hm.1; constructor <;> omega)) (by rfl) (by rfl) (by rfl) ?_
        refine wot_o rfl (opt_assign (by rfl) (by rfl)) (by rfl) (by rfl) (by rfl) ?_
        refine wot_nil ?_
        (refine wct_ret ?_)
        refine fin_1c (by simp) rfl (by rfl) (by exact Cl.v _) ?_
        exact ⟨m, by simp, hm.1⟩
theorem pu104 {n : Nat} (hn : n < 256) : Pu Tryd.prog 104 [.v (.int .u64 (n : Int))] (fun r => ∃ m : Nat, r = ti (m : Int) ∧ m < 256) := by
  refine pu_fn fn104 (by rfl) (by rfl) (by rfl) fun X hX hTb => ?_
  refine wct_region_seq (by simp) ?_
  refine wot_o rfl (opt_assign_c (by rfl)) (by rfl) (by rfl) (by rfl) ?_
  refine wot_nil ?_
  refine wct_ifb_seq (by rfl) (by rfl) (fun c1 => ?_) (fun c1 => ?_)
  · (refine wct_assoc ?_)
    try simp only [Int.toNat_natCast] at c1
    cases c1
  · (refine wct_skip_seq ?_)
    try simp only [Int.toNat_natCast] at c1
    refine wct_region_seq (by simp) ?_
    refine wot_o rfl (opt_move (by rfl) (by rfl)) (by rfl) (by rfl) (by rfl) ?_
    refine wot_ce hTb rfl (call_bin (by rfl) (by rfl)) (by refine Drs.cons (by exact Dr.cl (by exact Cl.v _)) ?_; exact Drs.nil) (pu117 hn) (by (rintro r ⟨x, rfl, h⟩; exact Cl.v _)) (by rfl) (by rfl) (by rfl) ?_
    rintro r ⟨m, rfl, hm⟩
    refine wot_o rfl (opt_assign (by rfl) (by rfl)) (by rfl) (by rfl) (by rfl) ?_
    refine wot_nil ?_
    (refine wct_ret ?_)
    refine fin_1c (by simp) rfl (by rfl) (by exact Cl.v _) ?_
    exact ⟨m, rfl, hm⟩
end Go.Ab
