/- The road to a card of this seat: G2. Each theorem holds for every input that its own premises speak of. -/
import Derived.Test.YtaaeeiheeihjaaaDoorG1
set_option linter.all false
namespace Go.Ab
open Go.Proofs
theorem at_mem' {α : Type} [Enc α] {xs : List α} {k : Nat} (h : k < xs.length) : at' xs k ∈ xs := by
  simp [at', h]
theorem pu83 {i : Inst} {l : List Int} {t : Bool} (hl : l.length ≤ 2 ^ 30) : Pu Tryd.prog 83 [Enc.tv i, lst t l] (Eq (lst false (beforeI i l))) := by
  have h2 := woI_len l (dfn i)
  have h3 := usesI_len i
  refine pu_fn fn83 (by rfl) (by rfl) (by rfl) fun X hX hTb => ?_
  refine wct_region_seq (by simp) ?_
  refine wot_o rfl (opt_box_fz (by rfl) (by rfl) (by trivial)) (by rfl) (by rfl) (by rfl) ?_
  refine wot_o rfl (opt_assign_c (by rfl)) (by rfl) (by rfl) (by rfl) ?_
  refine wot_nil ?_
  refine wct_draw_seq (by kernel_rfl) (u := [(4, 2), (4, 3)]) (by kernel_rfl) ?_
  refine wtt_o rfl (opt_move (by rfl) (by rfl)) (by rfl) (by rfl) (by rfl) ?_
  refine wtt_o rfl (by exact opt_load_fp_row (by rfl) (by rfl) (by rfl)) (by rfl) (by rfl) (by rfl) ?_
  refine wtt_c hTb rfl (call_bin (by rfl) (by rfl)) (by refine Drs.cons (by exact Dr.cl (by exact Cl.agg (cls_cl _))) ?_; exact Drs.nil) (pu28) (by exact Cl.v _) (by rfl) (by rfl) (by rfl) ?_
  refine wtt_c hTb rfl (call_bin (by rfl) (by rfl)) (by refine Drs.cons (by exact Dr.tag rfl (flat_cl _)) ?_; refine Drs.cons (by exact Dr.cl (by exact Cl.v _)) ?_; exact Drs.nil) (pu81 (by omega)) (by exact lst_cl _) (by rfl) (by rfl) (by rfl) ?_
  refine wtt_o rfl (by exact opt_load_fp_row (by rfl) (by rfl) (by rfl)) (by rfl) (by rfl) (by rfl) ?_
  refine wtt_c hTb rfl (call_bin (by rfl) (by rfl)) (by refine Drs.cons (by exact Dr.cl (by exact Cl.agg (cls_cl _))) ?_; exact Drs.nil) (pu26) (by exact lst_cl _) (by rfl) (by rfl) (by rfl) ?_
  refine wtt_c hTb rfl (call_bin (by rfl) (by rfl)) (by refine Drs.cons (by exact Dr.cl (by exact lst_cl _)) ?_; refine Drs.cons (by exact Dr.cl (by exact lst_cl _)) ?_; exact Drs.nil) (pu51 (by omega) (by omega)) (by exact lst_cl _) (by rfl) (by rfl) (by rfl) ?_
  refine wtt_o rfl (opt_assign (by rfl) (by rfl)) (by rfl) (by rfl) (by rfl) ?_
  refine wtt_nil ?_
  refine ⟨⟨(by exact ChkT.fp (by rfl) (by rfl) (by rfl) (by rfl) (by rfl)), (by exact ChkT.fp (by rfl) (by rfl) (by rfl) (by rfl) (by rfl)), trivial⟩, ?_⟩
  (refine wct_ret ?_)
  refine fin_1c (by simp) rfl (by rfl) (by exact lst_cl _) ?_
  rfl
theorem foldr_drop {α β : Type} [Enc α] {f : α → β → β} {b : β} {l : List α} {k : Nat} (h : k < l.length) : (l.drop k).foldr f b = f (at' l k) ((l.drop (k + 1)).foldr f b) := by
  rw [List.drop_eq_getElem_cons h, List.foldr_cons]
  simp [at', h]
theorem pu49 {b : Block} {l : List Int} {k : Nat} (hl : l.length ≤ 2 ^ 20) (hb : b.i.length ≤ 2 ^ 20) (hk : k ≤ b.i.length) : Pu Tryd.prog 49 [Enc.tv b, lst false l, ti (k : Int)] (Eq (lst false (atI b.i l k))) := by
  refine pu_fn fn49 (by rfl) (by rfl) (by rfl) fun X hX hTb => ?_
  refine wct_region_seq (by simp) ?_
  refine wot_o rfl (opt_box_fz (by rfl) (by rfl) (by trivial)) (by rfl) (by rfl) (by rfl) ?_
  refine wot_o rfl (opt_assign_c (by rfl)) (by rfl) (by rfl) (by rfl) ?_
  refine wot_nil ?_
  refine wct_region_seq (by simp) ?_
  refine wot_o rfl (opt_move (by rfl) (by rfl)) (by rfl) (by rfl) (by rfl) ?_
  refine wot_o rfl (opt_assign (by rfl) (by rfl)) (by rfl) (by rfl) (by rfl) ?_
  refine wot_nil ?_
  (refine wct_assoc ?_)
  refine wct_region_seq (by simp) ?_
  refine wot_o rfl (by exact opt_fieldAddr_fp (by rfl) (by rfl)) (by rfl) (by rfl) (by rfl) ?_
  refine wot_o rfl (by exact opt_load_fp_1 (by rfl) (by rfl) (by rfl)) (by rfl) (by rfl) (by rfl) ?_
  refine wot_o rfl (by exact opt_len_fz (by rfl) (by rfl) (by rfl)) (by rfl) (by rfl) (by rfl) ?_
  refine wot_o rfl (opt_sub (by rfl) (by rfl) (by rfl) (by rfl) (by constructor <;> omega)) (by rfl) (by rfl) (by rfl) ?_
  refine wot_o rfl (opt_assign (by rfl) (by rfl)) (by rfl) (by rfl) (by rfl) ?_
  refine wot_nil ?_
  refine wct_loop2 (fun (z : Int) (ys : List Int) => (k : Int) ≤ z + 1 ∧ z < b.i.length ∧ ys = (b.i.drop (z + 1).toNat).foldr beforeI l ∧ ys.length ≤ l.length + 3 * (b.i.length - (z + 1).toNat)) (fun (z : Int) (ys : List Int) => [(2, ti (k : Int)), (3, .fp false (cls b) 0), (7, lst false ys), (8, ti z)]) (fun (z : Int) (ys : List Int) => []) (fun (z : Int) (ys : List Int) => (z + 1).toNat) ((b.i.length : Int) - 1) l (by exact ⟨rfl, rfl, rfl, rfl, trivial⟩) (by rfl) ?_ ?_
  · exact ⟨by omega, by omega, by rw [List.drop_eq_nil_of_le (by omega)]; rfl, by omega⟩
  rintro z ys ⟨h1, h2, h3, h4⟩
  (refine wct_assoc ?_)
  refine wct_region_seq (by simp) ?_
  refine wot_o rfl (opt_move (by rfl) (by rfl)) (by rfl) (by rfl) (by rfl) ?_
  refine wot_o rfl (opt_move (by rfl) (by rfl)) (by rfl) (by rfl) (by rfl) ?_
  refine wot_o rfl (opt_cmp (by rfl) (by rfl) (by rfl) (by rfl) (by rfl)) (by rfl) (by rfl) (by rfl) ?_
  refine wot_nil ?_
  refine wct_if_seq (by rfl) (by rfl) (fun c1 => ?_) (fun c1 => ?_)
  · (refine wct_skip_seq ?_; refine wct_block_rg ?_)
    try simp only [Int.toNat_natCast] at c1
    refine wct_region (by simp) ?_
    refine wot_o rfl (by exact opt_fieldAddr_fp (by rfl) (by rfl)) (by rfl) (by rfl) (by rfl) ?_
    refine wot_o rfl (by exact opt_load_fp_1 (by rfl) (by rfl) (by rfl)) (by rfl) (by rfl) (by rfl) ?_
    refine wot_o rfl (opt_move (by rfl) (by rfl)) (by rfl) (by rfl) (by rfl) ?_
    refine wot_o rfl (by exact opt_index_lst (by rfl) (by rfl) (by rfl) (by rfl) (by omega) (by omega) (by rfl)) (by rfl) (by rfl) (by rfl) ?_
    refine wot_o rfl (by exact opt_load_fp_row (by rfl) (by rfl) (by rfl)) (by rfl) (by rfl) (by rfl) ?_
    refine wot_o rfl (opt_move (by rfl) (by rfl)) (by rfl) (by rfl) (by rfl) ?_
    refine wot_c hTb rfl (call_bin (by rfl) (by rfl)) (by refine Drs.cons (by exact Dr.cl (by exact Cl.agg (cls_cl _))) ?_; refine Drs.cons (by exact Dr.cl (by exact lst_cl _)) ?_; exact Drs.nil) (pu83 (by omega)) (by exact lst_cl _) (by rfl) (by rfl) (by rfl) ?_
    refine wot_o rfl (opt_assign (by rfl) (by rfl)) (by rfl) (by rfl) (by rfl) ?_
    refine wot_nil ?_
    (refine qbt_normal ?_; refine qst_wct ?_)
    refine wct_region (by simp) ?_
    refine wot_o rfl (opt_move (by rfl) (by rfl)) (by rfl) (by rfl) (by rfl) ?_
    refine wot_o rfl (opt_sub (by rfl) (by rfl) (by rfl) (by rfl) (by constructor <;> omega)) (by rfl) (by rfl) (by rfl) ?_
    refine wot_o rfl (opt_assign (by rfl) (by rfl)) (by rfl) (by rfl) (by rfl) ?_
    refine wot_nil ?_
    (refine qst_loop ?_)
    refine rnd (z - 1, beforeI (at' b.i z.toNat) ys) (by (try simp only); omega) ?_ (by exact ⟨rfl, rfl, rfl, rfl, trivial⟩) (by rfl)
    try dsimp only
    have e1 : (z + 1).toNat = z.toNat + 1 := by omega
    have e2 : (z - 1 + 1).toNat = z.toNat := by omega
    have h5 := beforeI_len (at' b.i z.toNat) ys
    refine ⟨by omega, by omega, ?_, by omega⟩
    rw [e2, foldr_drop (by omega), h3, e1]
  · (refine wct_exit_seq ?_; refine qst_exit ?_; refine qbt_same ?_; refine qst_wct ?_)
    try simp only [Int.toNat_natCast] at c1
    refine wct_region_seq (by simp) ?_
    refine wot_o rfl (opt_move (by rfl) (by rfl)) (by rfl) (by rfl) (by rfl) ?_
    refine wot_o rfl (opt_assign (by rfl) (by rfl)) (by rfl) (by rfl) (by rfl) ?_
    refine wot_nil ?_
    (refine wct_ret ?_)
    refine fin_1c (by simp) rfl (by rfl) (by exact lst_cl _) ?_
    have e : (z + 1).toNat = k := by omega
    rw [h3, e]; rfl
theorem succIn_take {t : Term} {in_ : List (List Int)} {k : Nat} (h : k < (succT t).length) : ((succT t).take (k + 1)).foldl (fun l s => unionI l (at' in_ s.toNat)) [] = unionI (((succT t).take k).foldl (fun l s => unionI l (at' in_ s.toNat)) []) (at' in_ (at' (succT t) k).toNat) := by rw [take_succ h, List.foldl_append]; rfl
theorem pu48 {c : Code} {k : Nat} {u : Bool} {in_ : List (List Int)} (hk : k < c.b.length) (hto : ∀ s ∈ succT (at' c.b k).t, 0 ≤ s ∧ s < in_.length) (hin : ∀ l ∈ in_, l.length ≤ 2 ^ 16) : Pu Tryd.prog 48 [Enc.tv c, ti (k : Int), lst u in_] (Eq (lst false (neededI (at' c.b k).t in_))) := by
  refine pu_fn fn48 (by rfl) (by rfl) (by rfl) fun X hX hTb => ?_
  refine wct_region_seq (by simp) ?_
  refine wot_o rfl (opt_box_fz (by rfl) (by rfl) (by trivial)) (by rfl) (by rfl) (by rfl) ?_
  refine wot_o rfl (opt_assign_c (by rfl)) (by rfl) (by rfl) (by rfl) ?_
  refine wot_nil ?_
  refine wct_region_seq (by simp) ?_
  refine wot_o rfl (by exact opt_fieldAddr_fp (by rfl) (by rfl)) (by rfl) (by rfl) (by rfl) ?_
  refine wot_o rfl (by exact opt_load_fp_1 (by rfl) (by rfl) (by rfl)) (by rfl) (by rfl) (by rfl) ?_
  refine wot_o rfl (opt_move (by rfl) (by rfl)) (by rfl) (by rfl) (by rfl) ?_
  refine wot_o rfl (by exact opt_index_lstN (by rfl) (by rfl) (by rfl) (by rfl) (by omega) (by rfl)) (by rfl) (by rfl) (by rfl) ?_
  refine wot_o rfl (by exact opt_fieldAddr_fp (by rfl) (by rfl)) (by rfl) (by rfl) (by rfl) ?_
  refine wot_o (x := Enc.tv (at' c.b k).t) rfl (opt_as (by exact opt_load_fp_a (by rfl) (by rfl) (by rfl)) (by rfl)) (by rfl) (by rfl) (by rfl) ?_
  refine wot_o rfl (opt_alloc (by rfl)) (by rfl) (by rfl) (by rfl) ?_
  refine wot_of0 rfl (by exact opt_store_row (by rfl) (by rfl) (by rfl) (by rfl) (by rfl) (by trivial) (by rfl) (by rfl) (by rfl)) (EffOk.pure hX) (by rfl) (by rfl) ?_
  refine wot_nil ?_
  refine wct_region_seq (by simp) ?_
  refine wot_o rfl (opt_lit_l (([] : List Int)) (by rfl) (by rfl) (by rfl) (by rfl) (by rfl) (by rfl) (by rfl) (by rfl) (by rfl) (by rfl)) (by rfl) (by rfl) (by rfl) ?_
  refine wot_o rfl (by exact opt_load_row (by rfl) (by rfl) (by rfl) (by rfl) (by rfl)) (by rfl) (by rfl) (by rfl) ?_
  refine wot_c hTb rfl (call_bin (by rfl) (by rfl)) (by refine Drs.cons (by exact Dr.cl (by exact Cl.agg (cls_cl _))) ?_; exact Drs.nil) (pu64) (by exact lst_cl _) (by rfl) (by rfl) (by rfl) ?_
  refine wot_o rfl (opt_assign (by rfl) (by rfl)) (by rfl) (by rfl) (by rfl) ?_
  refine wot_o rfl (opt_assign (by rfl) (by rfl)) (by rfl) (by rfl) (by rfl) ?_
  refine wot_nil ?_
  (refine wct_assoc ?_)
  refine wct_region_seq (by simp) ?_
  refine wot_o rfl (opt_assign_c (by rfl)) (by rfl) (by rfl) (by rfl) ?_
  refine wot_nil ?_
  have h2 := succT_len (at' c.b k).t
  refine wct_loop2 (fun (j : Nat) (zs : List Int) => j ≤ (succT (at' c.b k).t).length ∧ zs = ((succT (at' c.b k).t).take j).foldl (fun l s => unionI l (at' in_ s.toNat)) [] ∧ zs.length ≤ 2 ^ 16 * j) (fun (j : Nat) (zs : List Int) => [(2, lst u in_), (7, .pt 0 0 0), (8, lst false zs), (9, lst false (succT (at' c.b k).t)), (10, ti (j : Int))]) (fun (j : Nat) (zs : List Int) => [⟨0, some (62, cls (at' c.b k).t)⟩]) (fun (j : Nat) (zs : List Int) => (succT (at' c.b k).t).length - j) 0 [] (by exact ⟨rfl, rfl, rfl, rfl, rfl, trivial⟩) (by rfl) ?_ ?_
  · simp
  rintro j zs ⟨hj, hz, hl⟩
  (refine wct_assoc ?_)
  refine wct_region_seq (by simp) ?_
  refine wot_o rfl (opt_move (by rfl) (by rfl)) (by rfl) (by rfl) (by rfl) ?_
  refine wot_o rfl (opt_move (by rfl) (by rfl)) (by rfl) (by rfl) (by rfl) ?_
  refine wot_o rfl (by exact opt_len_fz (by rfl) (by rfl) (by rfl)) (by rfl) (by rfl) (by rfl) ?_
  refine wot_o rfl (opt_cmp (by rfl) (by rfl) (by rfl) (by rfl) (by rfl)) (by rfl) (by rfl) (by rfl) ?_
  refine wot_nil ?_
  refine wct_if_seq (by rfl) (by rfl) (fun c1 => ?_) (fun c1 => ?_)
  · (refine wct_skip_seq ?_; refine wct_block_rg ?_)
    try simp only [Int.toNat_natCast] at c1
    have h3 := hto _ (at_mem (xs := succT (at' c.b k).t) (k := j) (by omega))
    have h4 := hin _ (at_mem' (xs := in_) (k := (at' (succT (at' c.b k).t) j).toNat) (by omega))
    refine wct_region (by simp) ?_
    refine wot_o rfl (opt_move (by rfl) (by rfl)) (by rfl) (by rfl) (by rfl) ?_
    refine wot_o rfl (opt_move (by rfl) (by rfl)) (by rfl) (by rfl) (by rfl) ?_
    refine wot_o rfl (opt_move (by rfl) (by rfl)) (by rfl) (by rfl) (by rfl) ?_
    refine wot_o rfl (opt_move (by rfl) (by rfl)) (by rfl) (by rfl) (by rfl) ?_
    refine wot_o rfl (by exact opt_index_lstN (by rfl) (by rfl) (by rfl) (by rfl) (by omega) (by rfl)) (by rfl) (by rfl) (by rfl) ?_
    refine wot_o rfl (by exact opt_load_fp_1 (by rfl) (by rfl) (by rfl)) (by rfl) (by rfl) (by rfl) ?_
    refine wot_o rfl (by exact opt_index_lst (by rfl) (by rfl) (by rfl) (by rfl) (by omega) (by omega) (by rfl)) (by rfl) (by rfl) (by rfl) ?_
    refine wot_o rfl (by exact opt_load_fp_1 (by rfl) (by rfl) (by rfl)) (by rfl) (by rfl) (by rfl) ?_
    refine wot_c hTb rfl (call_bin (by rfl) (by rfl)) (by refine Drs.cons (by exact Dr.cl (by exact lst_cl _)) ?_; refine Drs.cons (by exact Dr.cl (by exact lst_cl _)) ?_; exact Drs.nil) (pu51 (by omega) (by omega)) (by exact lst_cl _) (by rfl) (by rfl) (by rfl) ?_
    refine wot_o rfl (opt_assign (by rfl) (by rfl)) (by rfl) (by rfl) (by rfl) ?_
    refine wot_nil ?_
    (refine qbt_normal ?_; refine qst_wct ?_)
    refine wct_region (by simp) ?_
    refine wot_o rfl (opt_move (by rfl) (by rfl)) (by rfl) (by rfl) (by rfl) ?_
    refine wot_o rfl (opt_add (by rfl) (by rfl) (by rfl) (by rfl) (by constructor <;> omega)) (by rfl) (by rfl) (by rfl) ?_
    refine wot_o rfl (opt_assign (by rfl) (by rfl)) (by rfl) (by rfl) (by rfl) ?_
    refine wot_nil ?_
    (refine qst_loop ?_)
    refine rnd (j + 1, unionI zs (at' in_ (at' (succT (at' c.b k).t) j).toNat)) (by (try simp only); omega) ?_ (by exact ⟨rfl, rfl, rfl, rfl, rfl, trivial⟩) (by rfl)
    try dsimp only
    have h5 := unionI_len (at' in_ (at' (succT (at' c.b k).t) j).toNat) zs
    refine ⟨by omega, by rw [succIn_take (by omega), hz], by omega⟩
  · (refine wct_exit_seq ?_; refine qst_exit ?_; refine qbt_same ?_; refine qst_wct ?_)
    try simp only [Int.toNat_natCast] at c1
    have h5 := woI_len zs (dfnT (at' c.b k).t)
    have h6 := usesT_len (at' c.b k).t
    refine wct_draw_seq (by kernel_rfl) (u := [(4, 2), (4, 3)]) (by kernel_rfl) ?_
    refine wtt_o rfl (opt_move (by rfl) (by rfl)) (by rfl) (by rfl) (by rfl) ?_
    refine wtt_o rfl (by exact opt_load_row (by rfl) (by rfl) (by rfl) (by rfl) (by rfl)) (by rfl) (by rfl) (by rfl) ?_
    refine wtt_c hTb rfl (call_bin (by rfl) (by rfl)) (by refine Drs.cons (by exact Dr.cl (by exact Cl.agg (cls_cl _))) ?_; exact Drs.nil) (pu63) (by exact Cl.v _) (by rfl) (by rfl) (by rfl) ?_
    refine wtt_c hTb rfl (call_bin (by rfl) (by rfl)) (by refine Drs.cons (by exact Dr.cl (by exact lst_cl _)) ?_; refine Drs.cons (by exact Dr.cl (by exact Cl.v _)) ?_; exact Drs.nil) (pu81 (by omega)) (by exact lst_cl _) (by rfl) (by rfl) (by rfl) ?_
    refine wtt_o rfl (by exact opt_load_row (by rfl) (by rfl) (by rfl) (by rfl) (by rfl)) (by rfl) (by rfl) (by rfl) ?_
    refine wtt_c hTb rfl (call_bin (by rfl) (by rfl)) (by refine Drs.cons (by exact Dr.cl (by exact Cl.agg (cls_cl _))) ?_; exact Drs.nil) (pu82) (by exact lst_cl _) (by rfl) (by rfl) (by rfl) ?_
    refine wtt_c hTb rfl (call_bin (by rfl) (by rfl)) (by refine Drs.cons (by exact Dr.cl (by exact lst_cl _)) ?_; refine Drs.cons (by exact Dr.cl (by exact lst_cl _)) ?_; exact Drs.nil) (pu51 (by omega) (by omega)) (by exact lst_cl _) (by rfl) (by rfl) (by rfl) ?_
    refine wtt_o rfl (opt_assign (by rfl) (by rfl)) (by rfl) (by rfl) (by rfl) ?_
    refine wtt_nil ?_
    refine ⟨⟨(by exact chk_pt (t := 62) (by rfl) (by rfl) (by rfl) (by rfl) (by rfl) (by rfl) (by rfl) (by rfl) (by rfl)), (by exact chk_pt (t := 62) (by rfl) (by rfl) (by rfl) (by rfl) (by rfl) (by rfl) (by rfl) (by rfl) (by rfl)), trivial⟩, ?_⟩
    (refine wct_ret ?_)
    refine fin_1c (by simp) rfl (by rfl) (by exact lst_cl _) ?_
    rw [hz, take_all hj c1]; rfl
theorem pu21 {t u : Bool} {xs ys : List Int} : Pu Tryd.prog 21 [lst t xs, lst u ys] (Eq (tb (decide (xs = ys)))) := by
  refine pu_fn fn21 (by rfl) (by rfl) (by rfl) fun X hX hTb => ?_
  refine wct_region_seq (by simp) ?_
  refine wot_o rfl (opt_assign_c (by rfl)) (by rfl) (by rfl) (by rfl) ?_
  refine wot_nil ?_
  (refine wct_assoc ?_)
  refine wct_region_seq (by simp) ?_
  refine wot_o rfl (opt_move (by rfl) (by rfl)) (by rfl) (by rfl) (by rfl) ?_
  refine wot_o rfl (by exact opt_len_fz (by rfl) (by rfl) (by rfl)) (by rfl) (by rfl) (by rfl) ?_
  refine wot_o rfl (opt_move (by rfl) (by rfl)) (by rfl) (by rfl) (by rfl) ?_
  refine wot_o rfl (by exact opt_len_fz (by rfl) (by rfl) (by rfl)) (by rfl) (by rfl) (by rfl) ?_
  refine wot_o rfl (opt_cmp (by rfl) (by rfl) (by rfl) (by rfl) (by rfl)) (by rfl) (by rfl) (by rfl) ?_
  refine wot_nil ?_
  refine wct_if_seq (by rfl) (by rfl) (fun c1 => ?_) (fun c1 => ?_)
  · (refine wct_assoc ?_)
    try simp only [Int.toNat_natCast] at c1
    refine wct_region_seq (by simp) ?_
    refine wot_o rfl (opt_assign_c (by rfl)) (by rfl) (by rfl) (by rfl) ?_
    refine wot_nil ?_
    (refine wct_ret_seq ?_)
    refine fin_1c (by simp) rfl (by rfl) (by exact Cl.v _) ?_
    have : xs ≠ ys := by rintro rfl; exact c1 rfl
    simp [this]
  · (refine wct_skip_seq ?_; refine wct_assoc ?_)
    try simp only [Int.toNat_natCast] at c1
    refine wct_region_seq (by simp) ?_
    refine wot_o rfl (opt_assign_c (by rfl)) (by rfl) (by rfl) (by rfl) ?_
    refine wot_nil ?_
    refine wct_fact (f_len (d := 0) rfl) fun hl => ?_
    have hlen : xs.length = ys.length := by omega
    refine wct_loop_seq (fun (k : Nat) => k ≤ xs.length ∧ xs.take k = ys.take k) (fun (k : Nat) => [(0, lst t xs), (1, lst u ys), (5, ti (k : Int))]) (fun (k : Nat) => []) (fun (k : Nat) => xs.length - k) 0 (by exact ⟨rfl, rfl, rfl, trivial⟩) (by rfl) ?_ ?_
    · simp
    rintro k ⟨hk, hn⟩
    (refine wct_assoc ?_)
    refine wct_region_seq (by simp) ?_
    refine wot_o rfl (opt_move (by rfl) (by rfl)) (by rfl) (by rfl) (by rfl) ?_
    refine wot_o rfl (opt_move (by rfl) (by rfl)) (by rfl) (by rfl) (by rfl) ?_
    refine wot_o rfl (by exact opt_len_fz (by rfl) (by rfl) (by rfl)) (by rfl) (by rfl) (by rfl) ?_
    refine wot_o rfl (opt_cmp (by rfl) (by rfl) (by rfl) (by rfl) (by rfl)) (by rfl) (by rfl) (by rfl) ?_
    refine wot_nil ?_
    refine wct_if_seq (by rfl) (by rfl) (fun c2 => ?_) (fun c2 => ?_)
    · (refine wct_skip_seq ?_; refine wct_block_sq ?_)
      try simp only [Int.toNat_natCast] at c2
      refine wct_draw_seq (by kernel_rfl) (u := []) (by kernel_rfl) ?_
      refine wtt_o rfl (opt_move (by rfl) (by rfl)) (by rfl) (by rfl) (by rfl) ?_
      refine wtt_o rfl (opt_move (by rfl) (by rfl)) (by rfl) (by rfl) (by rfl) ?_
      refine wtt_o rfl (by exact opt_index_lstN (by rfl) (by rfl) (by rfl) (by rfl) (by omega) (by rfl)) (by rfl) (by rfl) (by rfl) ?_
      refine wtt_o rfl (by exact opt_load_fp_1 (by rfl) (by rfl) (by rfl)) (by rfl) (by rfl) (by rfl) ?_
      refine wtt_o rfl (opt_move (by rfl) (by rfl)) (by rfl) (by rfl) (by rfl) ?_
      refine wtt_o rfl (opt_move (by rfl) (by rfl)) (by rfl) (by rfl) (by rfl) ?_
      refine wtt_o rfl (by exact opt_index_lstN (by rfl) (by rfl) (by rfl) (by rfl) (by omega) (by rfl)) (by rfl) (by rfl) (by rfl) ?_
      refine wtt_o rfl (by exact opt_load_fp_1 (by rfl) (by rfl) (by rfl)) (by rfl) (by rfl) (by rfl) ?_
      refine wtt_o rfl (opt_cmp (by rfl) (by rfl) (by rfl) (by rfl) (by rfl)) (by rfl) (by rfl) (by rfl) ?_
      refine wtt_nil ?_
      refine ⟨trivial, ?_⟩
      refine wct_if (by rfl) (by rfl) (fun c3 => ?_) (fun c3 => ?_)
      · (skip)
        try simp only [Int.toNat_natCast] at c3
        refine wct_region_seq (by simp) ?_
        refine wot_o rfl (opt_assign_c (by rfl)) (by rfl) (by rfl) (by rfl) ?_
        refine wot_nil ?_
        (refine wct_ret ?_; refine qbt_ret ?_; refine qst_ret ?_; refine qst_ret ?_; refine qbt_ret ?_; refine qst_ret ?_)
        refine fin_1c (by simp) rfl (by rfl) (by exact Cl.v _) ?_
        have : xs ≠ ys := by rintro rfl; exact c3 rfl
        simp [this]
      · (refine wct_skip ?_; refine qbt_normal ?_; refine qst_wct ?_)
        try simp only [Int.toNat_natCast] at c3
        refine wct_region (by simp) ?_
        refine wot_o rfl (opt_move (by rfl) (by rfl)) (by rfl) (by rfl) (by rfl) ?_
        refine wot_o rfl (opt_add (by rfl) (by rfl) (by rfl) (by rfl) (by constructor <;> omega)) (by rfl) (by rfl) (by rfl) ?_
        refine wot_o rfl (opt_assign (by rfl) (by rfl)) (by rfl) (by rfl) (by rfl) ?_
        refine wot_nil ?_
        (refine qst_loop ?_)
        refine rnd (k + 1) (by (try simp only); omega) ?_ (by exact ⟨rfl, rfl, rfl, trivial⟩) (by rfl)
        try dsimp only
        refine ⟨by omega, ?_⟩
        rw [take_succ (by omega), take_succ (by omega), hn, Decidable.not_not.1 c3]
    · (refine wct_exit_seq ?_; refine qst_exit ?_; refine qbt_same ?_; refine qst_wct ?_)
      try simp only [Int.toNat_natCast] at c2
      refine wct_region_seq (by simp) ?_
      refine wot_o rfl (opt_assign_c (by rfl)) (by rfl) (by rfl) (by rfl) ?_
      refine wot_nil ?_
      (refine wct_ret ?_)
      refine fin_1c (by simp) rfl (by rfl) (by exact Cl.v _) ?_
      rw [take_all hk c2, List.take_of_length_le (by omega)] at hn
      simp [hn]
end Go.Ab
