/- The road to a card of this seat: G19. Each theorem holds for every input that its own premises speak of. -/
import Derived.Test.YtaaeeiheeihjaaaDoorA10
import Derived.Test.YtaaeeiheeihjaaaDoorG18
import Derived.Test.YtaaeeiheeihjaaaDoorG5
set_option linter.all false
namespace Go.Ab
open Go.Proofs
structure TodoI (c : Code) (ws : List Int) (k : Nat) : Prop where
  ok : ∀ b ∈ ws, 0 ≤ b ∧ b < c.b.length ∧ at' (reachL c) b.toNat = true
  all : ∀ b : Nat, b < k → at' (reachL c) b = true → (b : Int) ∈ ws
  len : ws.length ≤ k
theorem TodoI.skip {c : Code} {ws : List Int} {k : Nat} (h : TodoI c ws k) (hr : at' (reachL c) k = false) : TodoI c ws (k + 1) :=
  ⟨h.ok, fun b hb hr2 => by
    rcases Nat.lt_or_ge b k with h1 | h1
    · exact h.all b h1 hr2
    · obtain rfl : b = k := by omega
      rw [hr] at hr2; exact absurd hr2 (by decide), by have := h.len; omega⟩
theorem TodoI.add {c : Code} {ws : List Int} {k : Nat} (h : TodoI c ws k) (hk : k < c.b.length) (hr : at' (reachL c) k = true) : TodoI c (ws ++ [(k : Int)]) (k + 1) :=
  ⟨fun b hb => by
    rcases List.mem_append.1 hb with hb | hb
    · exact h.ok b hb
    · rw [List.mem_singleton] at hb; subst hb
      exact ⟨by omega, by omega, by rw [Int.toNat_natCast]; exact hr⟩, fun b hb hr2 => by
    rcases Nat.lt_or_ge b k with h1 | h1
    · exact List.mem_append.2 (.inl (h.all b h1 hr2))
    · obtain rfl : b = k := by omega
      simp, by have := h.len; rw [List.length_append, List.length_singleton]; omega⟩
theorem pu12 {c : Code} (hf : Fit c) : Pu Tryd.prog 12 [Enc.tv c] (fun r => ∃ x, r = Enc.tv x ∧ Least c x) := by
  have hnb := hf.nb
  have hrl := reachL_len c
  have hrg := hf.rg
  refine pu_fn fn12 (by rfl) (by rfl) (by rfl) fun X hX hTb => ?_
  refine wct_region_seq (by simp) ?_
  refine wot_o rfl (opt_box_fz (by rfl) (by rfl) (by trivial)) (by rfl) (by rfl) (by rfl) ?_
  refine wot_o rfl (opt_alloc (by rfl)) (by rfl) (by rfl) (by rfl) ?_
  refine wot_nil ?_
  refine wct_region_seq (by simp) ?_
  refine wot_o rfl (by exact opt_fieldAddr_fp (by rfl) (by rfl)) (by rfl) (by rfl) (by rfl) ?_
  refine wot_o rfl (by exact opt_load_fp_1 (by rfl) (by rfl) (by rfl)) (by rfl) (by rfl) (by rfl) ?_
  refine wot_o rfl (by exact opt_len_fz (by rfl) (by rfl) (by rfl)) (by rfl) (by rfl) (by rfl) ?_
  refine wot_o rfl (opt_assign (by rfl) (by rfl)) (by rfl) (by rfl) (by rfl) ?_
  refine wot_nil ?_
  refine wct_draw_seq (by kernel_rfl) (u := []) (by kernel_rfl) ?_
  refine wtt_o rfl (opt_move (by rfl) (by rfl)) (by rfl) (by rfl) (by rfl) ?_
  refine wtt_o rfl (opt_make_l (emptyB) (by rfl) (by rfl) (by rfl) (by rfl) (by omega) (by omega) (by rfl) (by rfl) (by rfl) (by rfl)) (by rfl) (by rfl) (by rfl) ?_
  refine wtt_o rfl (opt_move (by rfl) (by rfl)) (by rfl) (by rfl) (by rfl) ?_
  refine wtt_o rfl (opt_make_l (emptyB) (by rfl) (by rfl) (by rfl) (by rfl) (by omega) (by omega) (by rfl) (by rfl) (by rfl) (by rfl)) (by rfl) (by rfl) (by rfl) ?_
  refine wtt_o rfl (opt_assign (by rfl) (by rfl)) (by rfl) (by rfl) (by rfl) ?_
  refine wtt_o rfl (opt_assign (by rfl) (by rfl)) (by rfl) (by rfl) (by rfl) ?_
  refine wtt_nil ?_
  refine ⟨trivial, ?_⟩
  refine wct_region_seq (by simp) ?_
  refine wot_o rfl (by exact opt_load_fp_row (by rfl) (by rfl) (by rfl)) (by rfl) (by rfl) (by rfl) ?_
  refine wot_c hTb rfl (call_bin (by rfl) (by rfl)) (by refine Drs.cons (by exact Dr.cl (by exact Cl.agg (cls_cl _))) ?_; exact Drs.nil) (pu43 hf) (by exact lst_cl _) (by rfl) (by rfl) (by rfl) ?_
  refine wot_o rfl (opt_assign (by rfl) (by rfl)) (by rfl) (by rfl) (by rfl) ?_
  refine wot_nil ?_
  refine wct_region_seq (by simp) ?_
  refine wot_o rfl (opt_move (by rfl) (by rfl)) (by rfl) (by rfl) (by rfl) ?_
  refine wot_o rfl (opt_make (by rfl) (by rfl) (by rfl) (by rfl) (by exact Nat.le_refl _) (by omega) (by omega) (by rfl) (by rfl) (by rfl)) (by rfl) (by rfl) (by rfl) ?_
  refine wot_o rfl (opt_assign (by rfl) (by rfl)) (by rfl) (by rfl) (by rfl) ?_
  refine wot_nil ?_
  refine wct_region_seq (by simp) ?_
  refine wot_o rfl (opt_assign_c (by rfl)) (by rfl) (by rfl) (by rfl) ?_
  refine wot_nil ?_
  (refine wct_assoc ?_)
  refine wct_ghost (g_nil (d := 8) 1 3 (by rfl)) ?_
  refine wct_ghost (g_nilcells (α := Int) (i := 3) 3 (by rw [← zeros_nil]; rfl)) ?_
  refine wct_region_seq (by simp) ?_
  refine wot_o rfl (opt_move (by rfl) (by rfl)) (by rfl) (by rfl) (by rfl) ?_
  refine wot_o rfl (opt_move_c (by rfl)) (by rfl) (by rfl) (by rfl) ?_
  refine wot_nil ?_
  refine wct_loop4 (fun (k : Nat) (g : Nat) (ws : List Int) (rs : List (NRow Int)) => k ≤ c.b.length ∧ TodoI c ws k ∧ Frm c (rs.map Prod.snd) k ∧ rs.length = c.b.length) (fun (k : Nat) (g : Nat) (ws : List Int) (rs : List (NRow Int)) => [(1, .fp false (cls c) 0), (2, .pt 0 0 0), (3, ti (c.b.length : Int)), (4, .own 1 0 4 0 c.b.length c.b.length), (5, .own 2 0 4 0 c.b.length c.b.length), (6, lst false (reachL c)), (7, .own 3 0 1 0 c.b.length c.b.length), (8, ownl 4 g ws), (27, ti (c.b.length : Int)), (28, ti (k : Int))]) (fun (k : Nat) (g : Nat) (ws : List Int) (rs : List (NRow Int)) => [⟨0, some (38, [.v (.slice none 0 0), .v (.slice none 0 0)])⟩, rl 0 93 (List.replicate c.b.length emptyB), rl 0 93 (List.replicate c.b.length emptyB), ⟨0, some (47, nCells 5 rs)⟩, rl g 3 ws] ++ nRoots 3 rs) (fun (k : Nat) (g : Nat) (ws : List Int) (rs : List (NRow Int)) => c.b.length - k) 0 0 [] (List.replicate c.b.length ((0, []) : NRow Int)) (by exact ⟨rfl, rfl, rfl, rfl, rfl, rfl, rfl, rfl, rfl, rfl, trivial⟩) (by rfl) ?_ ?_
  · exact ⟨by omega, ⟨by simp, fun b hb => absurd hb (by omega), by simp⟩, by rw [List.map_replicate]; exact Frm.start c, by simp⟩
  rintro k g ws rs ⟨hk, hT, hF, hrs⟩
  refine wct_region_seq (by simp) ?_
  refine wot_o rfl (opt_cmp (by rfl) (by rfl) (by rfl) (by rfl) (by rfl)) (by rfl) (by rfl) (by rfl) ?_
  refine wot_nil ?_
  refine wct_if_seq (by rfl) (by rfl) (fun c1 => ?_) (fun c1 => ?_)
  · (refine wct_skip_seq ?_; refine wct_block_sq ?_)
    try simp only [Int.toNat_natCast] at c1
    refine wct_region_seq (by simp) ?_
    refine wot_o rfl (opt_move (by rfl) (by rfl)) (by rfl) (by rfl) (by rfl) ?_
    refine wot_o rfl (opt_assign (by rfl) (by rfl)) (by rfl) (by rfl) (by rfl) ?_
    refine wot_nil ?_
    (refine wct_assoc ?_)
    refine wct_region_seq (by simp) ?_
    refine wot_o rfl (opt_move (by rfl) (by rfl)) (by rfl) (by rfl) (by rfl) ?_
    refine wot_o rfl (opt_move (by rfl) (by rfl)) (by rfl) (by rfl) (by rfl) ?_
    refine wot_o rfl (by exact opt_index_lstN (by rfl) (by rfl) (by rfl) (by rfl) (by omega) (by rfl)) (by rfl) (by rfl) (by rfl) ?_
    refine wot_o rfl (by exact opt_load_fp_1 (by rfl) (by rfl) (by rfl)) (by rfl) (by rfl) (by rfl) ?_
    refine wot_o rfl (opt_not (by rfl) (by rfl)) (by rfl) (by rfl) (by rfl) ?_
    refine wot_nil ?_
    refine wct_ifb_seq (by rfl) (by rfl) (fun c2 => ?_) (fun c2 => ?_)
    · (refine wct_exit_seq ?_; refine qbt_same ?_; refine qst_wct ?_)
      try simp only [Int.toNat_natCast] at c2
      have hre : at' (reachL c) k = false := by simpa using c2
      refine wct_region (by simp) ?_
      refine wot_o rfl (opt_add (by rfl) (by rfl) (by rfl) (by rfl) (by constructor <;> omega)) (by rfl) (by rfl) (by rfl) ?_
      refine wot_o rfl (opt_move (by rfl) (by rfl)) (by rfl) (by rfl) (by rfl) ?_
      refine wot_nil ?_
      (refine qst_loop ?_)
      refine rnd (k + 1, g, ws, rs) (by (try simp only); omega) ?_ (by exact ⟨rfl, rfl, rfl, rfl, rfl, rfl, rfl, rfl, rfl, rfl, trivial⟩) (by rfl)
      try dsimp only
      exact ⟨by omega, hT.skip hre, hF.skip hre, hrs⟩
    · (refine wct_skip_seq ?_)
      try simp only [Int.toNat_natCast] at c2
      have hre : at' (reachL c) k = true := by simpa using c2
      have htl := hT.len
      refine wct_region_seq (by simp) ?_
      refine wot_o rfl (opt_move (by rfl) (by rfl)) (by rfl) (by rfl) (by rfl) ?_
      refine wot_o rfl (opt_move (by rfl) (by rfl)) (by rfl) (by rfl) (by rfl) ?_
      refine wot_o rfl (opt_lit_l ([(k : Int)]) (by rfl) (by rfl) (by rfl) (by rfl) (by rfl) (by rfl) (by rfl) (by rfl) (by rfl) (by rfl)) (by rfl) (by rfl) (by rfl) ?_
      refine wot_of rfl (by exact opt_append_l (by rfl) (by rfl) (by rfl) (by rfl) src_lst (by rfl) (by rfl) (by rfl) (by (simp only [List.length_append, List.length_cons, List.length_nil, List.length_take, List.length_drop]; omega)) (by rfl)) (EffOk.pure hX) (by rfl) (by rfl) (by rfl) ?_
      refine wot_o rfl (opt_assign (by rfl) (by rfl)) (by rfl) (by rfl) (by rfl) ?_
      refine wot_nil ?_
      refine wct_region_seq (by simp) ?_
      refine wot_o rfl (by exact opt_fieldAddr_fp (by rfl) (by rfl)) (by rfl) (by rfl) (by rfl) ?_
      refine wot_o rfl (by exact opt_load_fp_1 (by rfl) (by rfl) (by rfl)) (by rfl) (by rfl) (by rfl) ?_
      refine wot_o rfl (opt_move (by rfl) (by rfl)) (by rfl) (by rfl) (by rfl) ?_
      refine wot_o rfl (by exact opt_index_lstN (by rfl) (by rfl) (by rfl) (by rfl) (by omega) (by rfl)) (by rfl) (by rfl) (by rfl) ?_
      refine wot_o rfl (by exact opt_fieldAddr_fp (by rfl) (by rfl)) (by rfl) (by rfl) (by rfl) ?_
      refine wot_o (x := Enc.tv (at' c.b k).t) rfl (opt_as (by exact opt_load_fp_a (by rfl) (by rfl) (by rfl)) (by rfl)) (by rfl) (by rfl) (by rfl) ?_
      refine wot_c hTb rfl (call_bin (by rfl) (by rfl)) (by refine Drs.cons (by exact Dr.cl (by exact Enc.cl _)) ?_; exact Drs.nil) (pu44) (by exact lst_cl _) (by rfl) (by rfl) (by rfl) ?_
      refine wot_o rfl (by exact opt_len_fz (by rfl) (by rfl) (by rfl)) (by rfl) (by rfl) (by rfl) ?_
      refine wot_o rfl (opt_move_c (by rfl)) (by rfl) (by rfl) (by rfl) ?_
      refine wot_nil ?_
      have hsl := succT_len (at' c.b k).t
      refine wct_loop12 (fun (i : Nat) (rt : List (NRow Int)) => i ≤ (succT (at' c.b k).t).length ∧ FrmI c (rt.map Prod.snd) k i ∧ rt.length = c.b.length) (fun (i : Nat) (rt : List (NRow Int)) => [(1, .fp false (cls c) 0), (2, .pt 0 0 0), (3, ti (c.b.length : Int)), (4, .own 1 0 4 0 c.b.length c.b.length), (5, .own 2 0 4 0 c.b.length c.b.length), (6, lst false (reachL c)), (7, .own 3 0 1 0 c.b.length c.b.length), (8, ownl 4 (g + 1) (ws ++ [(k : Int)])), (9, ti (k : Int)), (27, ti (c.b.length : Int)), (28, ti (k : Int)), (46, lst false (succT (at' c.b k).t)), (47, ti ((succT (at' c.b k).t).length : Int)), (48, ti (i : Int))]) (fun (i : Nat) (rt : List (NRow Int)) => [⟨0, some (38, [.v (.slice none 0 0), .v (.slice none 0 0)])⟩, rl 0 93 (List.replicate c.b.length emptyB), rl 0 93 (List.replicate c.b.length emptyB), ⟨0, some (47, nCells 5 rt)⟩, rl (g + 1) 3 (ws ++ [(k : Int)])] ++ nRoots 3 rt) (fun (i : Nat) (rt : List (NRow Int)) => (succT (at' c.b k).t).length - i) 0 rs (by exact ⟨rfl, rfl, rfl, rfl, rfl, rfl, rfl, rfl, rfl, rfl, rfl, rfl, rfl, rfl, trivial⟩) (by rfl) ?_ ?_
      · exact ⟨by omega, hF.go, hrs⟩
      rintro i rt ⟨hi, hI, hrt⟩
      refine wct_region_seq (by simp) ?_
      refine wot_o rfl (opt_cmp (by rfl) (by rfl) (by rfl) (by rfl) (by rfl)) (by rfl) (by rfl) (by rfl) ?_
      refine wot_nil ?_
      refine wct_if_seq (by rfl) (by rfl) (fun c3 => ?_) (fun c3 => ?_)
      · (refine wct_skip_seq ?_; refine wct_block_sq ?_)
        try simp only [Int.toNat_natCast] at c3
        have hto := hf.to _ (at_mem' (xs := c.b) (k := k) (by omega)) _ (at_mem (xs := succT (at' c.b k).t) (k := i) (by omega))
        have hrow := row_get (rs := rt) (k := (at' (succT (at' c.b k).t) i).toNat) (by omega)
        have hsz := hI.sz (at' (succT (at' c.b k).t) i).toNat (by omega)
        refine wct_region_seq (by simp) ?_
        refine wot_o rfl (by exact opt_index_lstN (by rfl) (by rfl) (by rfl) (by rfl) (by omega) (by rfl)) (by rfl) (by rfl) (by rfl) ?_
        refine wot_o rfl (by exact opt_load_fp_1 (by rfl) (by rfl) (by rfl)) (by rfl) (by rfl) (by rfl) ?_
        refine wot_o rfl (opt_assign (by rfl) (by rfl)) (by rfl) (by rfl) (by rfl) ?_
        refine wot_nil ?_
        refine wct_region (by simp) ?_
        refine wot_o rfl (opt_move (by rfl) (by rfl)) (by rfl) (by rfl) (by rfl) ?_
        refine wot_o rfl (opt_move (by rfl) (by rfl)) (by rfl) (by rfl) (by rfl) ?_
        refine wot_o rfl (opt_move (by rfl) (by rfl)) (by rfl) (by rfl) (by rfl) ?_
        refine wot_o rfl (opt_move (by rfl) (by rfl)) (by rfl) (by rfl) (by rfl) ?_
        refine wot_o rfl (by exact opt_index_l (by rfl) (by rfl) (by rfl) (by rfl) (by rfl) (by omega) (by omega)) (by rfl) (by rfl) (by rfl) ?_
        refine wot_o rfl (opt_load_nc (by rfl) (by rfl) (by rfl) (by rfl) hrow) (by rfl) (by rfl) (by rfl) ?_
        refine wot_o rfl (opt_move (by rfl) (by rfl)) (by rfl) (by rfl) (by rfl) ?_
        refine wot_o rfl (opt_lit_l ([(k : Int)]) (by rfl) (by rfl) (by rfl) (by rfl) (by rfl) (by rfl) (by rfl) (by rfl) (by rfl) (by rfl)) (by rfl) (by rfl) (by rfl) ?_
        refine wot_of rfl (opt_append_l (by rfl) (by rfl) (nget (nRoots_get hrow) rfl) rfl src_lst (by rfl) (by rfl) (by rfl) (by (simp only [List.length_append, List.length_cons, List.length_nil, List.length_take, List.length_drop, List.length_set, List.length_replicate]; omega)) (by rfl)) (EffOk.pure hX) (by rfl) (by rfl) (by rfl) ?_
        refine wot_o rfl (by exact opt_index_l (by rfl) (by rfl) (by rfl) (by rfl) (by rfl) (by omega) (by omega)) (by rfl) (by rfl) (by rfl) ?_
        refine wot_of0 rfl (opt_store_nc (by rfl) (by rfl) (by rfl) (by rfl) (by rfl) (by rfl) hrow) (EffOk.pure hX) (by rfl) (by rfl) ?_
        refine wot_nil ?_
        (refine qbt_normal ?_; refine qst_wct ?_)
        refine wct_region (by simp) ?_
        refine wot_o rfl (opt_add (by rfl) (by rfl) (by rfl) (by rfl) (by constructor <;> omega)) (by rfl) (by rfl) (by rfl) ?_
        refine wot_o rfl (opt_move (by rfl) (by rfl)) (by rfl) (by rfl) (by rfl) ?_
        refine wot_nil ?_
        (refine qst_loop ?_)
        refine rnd (i + 1, rt.set (at' (succT (at' c.b k).t) i).toNat (gOf rt (at' (succT (at' c.b k).t) i).toNat + 1, at' (rt.map Prod.snd) (at' (succT (at' c.b k).t) i).toNat ++ [(k : Int)])) (by (try simp only); omega) ?_ (by exact ⟨rfl, rfl, rfl, rfl, rfl, rfl, rfl, rfl, rfl, rfl, rfl, rfl, rfl, rfl, trivial⟩) (by rw [← nRoots_set]; rfl)
        try dsimp only
        refine ⟨by omega, ?_, by simp [hrt]⟩
        rw [snd_set]
        exact hI.add hf (by omega) hre (by omega)
      · (refine wct_exit_seq ?_; refine qst_exit ?_; refine qbt_same ?_; refine qbt_normal ?_; refine qst_wct ?_)
        try simp only [Int.toNat_natCast] at c3
        refine wct_region (by simp) ?_
        refine wot_o rfl (opt_add (by rfl) (by rfl) (by rfl) (by rfl) (by constructor <;> omega)) (by rfl) (by rfl) (by rfl) ?_
        refine wot_o rfl (opt_move (by rfl) (by rfl)) (by rfl) (by rfl) (by rfl) ?_
        refine wot_nil ?_
        (refine qst_loop ?_)
        refine rnd (k + 1, g + 1, ws ++ [(k : Int)], rt) (by (try simp only); omega) ?_ (by exact ⟨rfl, rfl, rfl, rfl, rfl, rfl, rfl, rfl, rfl, rfl, trivial⟩) (by rfl)
        try dsimp only
        exact ⟨by omega, hT.add (by omega) hre, hI.out (by omega), hrt⟩
  · (refine wct_exit_seq ?_; refine qst_exit ?_; refine qbt_same ?_; refine qst_wct ?_)
    try simp only [Int.toNat_natCast] at c1
    obtain rfl : k = c.b.length := by omega
    have hfl : ∀ r ∈ rs, r.2.length < 2 ^ 62 := fun r hr => by
        obtain ⟨q, hq, rfl⟩ := List.mem_iff_getElem.1 hr
        have := hF.sz q (by omega)
        simp [at', hq] at this
        omega
    have hfrl : (rs.map Prod.snd).length = c.b.length := by simp [hrs]
    refine wct_ghost (g_fzrows (α := Int) (j := 3) (base := 5) rfl rfl (by rw [hX]; exact Nat.zero_le _) hfl) ?_
    refine wct_ghost (g_pop (F := [(1, .fp false (cls c) 0), (2, .pt 0 0 0), (3, ti (c.b.length : Int)), (4, .own 1 0 4 0 c.b.length c.b.length), (5, .own 2 0 4 0 c.b.length c.b.length), (7, .own 3 0 1 0 c.b.length c.b.length), (8, ownl 4 g ws)]) (Th1 := [⟨0, some (38, [.v (.slice none 0 0), .v (.slice none 0 0)])⟩, rl 0 93 (List.replicate c.b.length emptyB), rl 0 93 (List.replicate c.b.length emptyB), rl 0 47 (rs.map Prod.snd), rl g 3 ws]) (by rfl) (by (rw [hX]; exact Nat.zero_le _)) (by exact ⟨rfl, rfl, rfl, rfl, rfl, rfl, rfl, trivial⟩) (by refine ⟨by exact Lo.cl (Cl.fp (cls_cl _)), ?_⟩; refine ⟨by exact Lo.pt (by rfl), ?_⟩; refine ⟨by exact Lo.cl (Cl.v _), ?_⟩; refine ⟨by exact Lo.own (by rfl), ?_⟩; refine ⟨by exact Lo.own (by rfl), ?_⟩; refine ⟨by exact Lo.own (by rfl), ?_⟩; refine ⟨by exact Lo.own (by rfl), ?_⟩; exact trivial) (by refine ⟨by (exact lo_all rfl), ?_⟩; refine ⟨by (intro c hc; exact Lo.cl (flat_cl _ c hc)), ?_⟩; refine ⟨by (intro c hc; exact Lo.cl (flat_cl _ c hc)), ?_⟩; refine ⟨by (intro c hc; exact Lo.cl (flat_cl _ c hc)), ?_⟩; refine ⟨by (intro c hc; exact Lo.cl (flat_cl _ c hc)), ?_⟩; exact trivial)) ?_
    generalize rs.map Prod.snd = fr at *
    have hwl := hT.len
    have e0 : List.replicate c.b.length emptyB = (List.replicate c.b.length ([] : List Int)).map ofB := by rw [List.map_replicate]; rfl
    rw [e0]
    refine wct_loop5 (fun (g : Nat) (m : Nat) (cap : Nat) (zs : List Int) (x : Live) => m ≤ zs.length ∧ m ≤ cap ∧ Wk c x (zs.take m) ∧ wkM c x (zs.take m) ≤ 2 ^ 43) (fun (g : Nat) (m : Nat) (cap : Nat) (zs : List Int) (x : Live) => [(1, .fp false (cls c) 0), (2, .pt 0 0 0), (3, ti (c.b.length : Int)), (4, .own 1 0 4 0 c.b.length c.b.length), (5, .own 2 0 4 0 c.b.length c.b.length), (7, .own 3 0 1 0 c.b.length c.b.length), (8, .own 4 g 1 0 m cap)]) (fun (g : Nat) (m : Nat) (cap : Nat) (zs : List Int) (x : Live) => [⟨0, some (38, [.v (.slice none 0 0), .v (.slice none 0 0)])⟩, rl 0 93 (x.in_.map ofB), rl 0 93 (x.out.map ofB), rl 0 47 fr, rl g 3 zs]) (fun (g : Nat) (m : Nat) (cap : Nat) (zs : List Int) (x : Live) => wkM c x (zs.take m)) g ws.length ws.length ws (⟨List.replicate c.b.length [], List.replicate c.b.length []⟩) (by exact ⟨rfl, rfl, rfl, rfl, rfl, rfl, rfl, trivial⟩) (by rfl) ?_ ?_
    · exact ⟨Nat.le_refl _, Nat.le_refl _, by rw [List.take_length]; exact Wk.start hT.ok fun b hb hr => hT.all b hb hr, wkM_le (by omega) (by rw [List.length_take]; omega)⟩
    rintro g m cap zs x ⟨hm, hmc, hW, hm4⟩
    (refine wct_assoc ?_)
    refine wct_region_seq (by simp) ?_
    refine wot_o rfl (opt_move (by rfl) (by rfl)) (by rfl) (by rfl) (by rfl) ?_
    refine wot_o rfl (by exact opt_len_own (by rfl) (by rfl) (by rfl) (by rfl)) (by rfl) (by rfl) (by rfl) ?_
    refine wot_o rfl (opt_cmp (by rfl) (by rfl) (by rfl) (by rfl) (by rfl)) (by rfl) (by rfl) (by rfl) ?_
    refine wot_nil ?_
    refine wct_if_seq (by rfl) (by rfl) (fun c4 => ?_) (fun c4 => ?_)
    · (refine wct_skip_seq ?_; refine wct_block1 ?_)
      try simp only [Int.toNat_natCast] at c4
      have hzm : (zs.take m).length = (m - 1) + 1 := by rw [List.length_take]; omega
      have hmw : m ≤ 2 ^ 43 := by have := wkM_len (c := c) (x := x) (todo := zs.take m); omega
      have hst := hW.step hf hzm hF
      simp only [at_take (show m - 1 < m by omega), List.take_take, show min (m - 1) m = m - 1 by omega] at hst
      obtain ⟨⟨hb, hbr⟩, hsame, hdiff⟩ := hst
      have hbz := hW.td (at' zs (m - 1)) (by rw [← at_take (show m - 1 < m by omega)]; exact mem_at.2 ⟨m - 1, by omega, rfl⟩)
      have hli := hW.way.li
      have hlo := hW.way.lo
      have hl1 : (x.in_.map ofB).length = c.b.length := by rw [List.length_map]; exact hli
      have hl2 : (x.out.map ofB).length = c.b.length := by rw [List.length_map]; exact hlo
      have hto0 := hf.to _ (at_mem' (xs := c.b) (k := (at' zs (m - 1)).toNat) hb)
      have hto : ∀ s ∈ succT (at' c.b (at' zs (m - 1)).toNat).t, 0 ≤ s ∧ s < ((x.in_.map ofB).length : Int) := fun s hs => by have := hto0 s hs; omega
      obtain ⟨hi1, hd1, hu1⟩ := hf.u hb
      have hmB : at' c.b (at' zs (m - 1)).toNat ∈ c.b := at_mem' hb
      have hlt : ∀ s ∈ succT (at' c.b (at' zs (m - 1)).toNat).t, ∀ r ∈ at' x.in_ s.toNat, r < 256 := fun s hs => (hW.way.ok _ (by have := hto0 s hs; omega)).1.lt hrg.2
      have eN := neededB_of (t := (at' c.b (at' zs (m - 1)).toNat).t) (ls := x.in_) (fun s hs => by rw [hli]; exact hto0 s hs) hd1 hu1 hlt
      have hNl : ∀ r ∈ neededI (at' c.b (at' zs (m - 1)).toNat).t x.in_, r < 256 := needed_lt hu1 hlt
      have eS : (at' ((x.out.map ofB).set (at' zs (m - 1)).toNat (neededB (at' c.b (at' zs (m - 1)).toNat).t (x.in_.map ofB))) (at' zs (m - 1)).toNat) = (neededB (at' c.b (at' zs (m - 1)).toNat).t (x.in_.map ofB)) := by rw [at_set (by omega), if_pos rfl]
      have eA : (atB (at' c.b (at' zs (m - 1)).toNat).i (at' ((x.out.map ofB).set (at' zs (m - 1)).toNat (neededB (at' c.b (at' zs (m - 1)).toNat).t (x.in_.map ofB))) (at' zs (m - 1)).toNat) 0) = ofB (atI (at' c.b (at' zs (m - 1)).toNat).i (neededI (at' c.b (at' zs (m - 1)).toNat).t x.in_) 0) := by rw [eS, eN]; exact atB_of hi1 hNl 0
      have eI : at' (x.in_.map ofB) (at' zs (m - 1)).toNat = ofB (at' x.in_ (at' zs (m - 1)).toNat) := at_map (by omega)
      have hinO : (oneB c x (at' zs (m - 1)).toNat).in_.map ofB = (x.in_.map ofB).set (at' zs (m - 1)).toNat (atB (at' c.b (at' zs (m - 1)).toNat).i (at' ((x.out.map ofB).set (at' zs (m - 1)).toNat (neededB (at' c.b (at' zs (m - 1)).toNat).t (x.in_.map ofB))) (at' zs (m - 1)).toNat) 0) := by rw [eA]; exact List.map_set
      have houtO : (oneB c x (at' zs (m - 1)).toNat).out.map ofB = (x.out.map ofB).set (at' zs (m - 1)).toNat (neededB (at' c.b (at' zs (m - 1)).toNat).t (x.in_.map ofB)) := by rw [eN]; exact List.map_set
      have hokA : LiOk 256 (atI (at' c.b (at' zs (m - 1)).toNat).i (neededI (at' c.b (at' zs (m - 1)).toNat).t x.in_) 0) := ((LiOk.needed (fun s hs => (hW.way.ok _ (by have := hto0 s hs; omega)).1) (hf.rt _ hmB).2.1).at fun i hi => (hf.rd _ hmB i hi).2.1).w hrg.2
      have hokI : LiOk 256 (at' x.in_ (at' zs (m - 1)).toNat) := (hW.way.ok _ hb).1.w hrg.2
      have hfs := hF.sz (at' zs (m - 1)).toNat hb
      refine wct_region_seq (by simp) ?_
      refine wot_o rfl (opt_move (by rfl) (by rfl)) (by rfl) (by rfl) (by rfl) ?_
      refine wot_o rfl (opt_move (by rfl) (by rfl)) (by rfl) (by rfl) (by rfl) ?_
      refine wot_o rfl (by exact opt_len_own (by rfl) (by rfl) (by rfl) (by rfl)) (by rfl) (by rfl) (by rfl) ?_
      refine wot_o rfl (opt_subN (by rfl) (by rfl) (by rfl) (by rfl) (by omega) (by omega)) (by rfl) (by rfl) (by rfl) ?_
      refine wot_o rfl (by exact opt_index_lN (by rfl) (by rfl) (by rfl) (by rfl) (by rfl) (by omega)) (by rfl) (by rfl) (by rfl) ?_
      refine wot_o rfl (by exact opt_load_l1 (by rfl) (by rfl) (by rfl) (by omega) (by rfl) (by rfl)) (by rfl) (by rfl) (by rfl) ?_
      refine wot_o rfl (opt_assign (by rfl) (by rfl)) (by rfl) (by rfl) (by rfl) ?_
      refine wot_nil ?_
      refine wct_region_seq (by simp) ?_
      refine wot_o rfl (opt_move (by rfl) (by rfl)) (by rfl) (by rfl) (by rfl) ?_
      refine wot_o rfl (opt_move (by rfl) (by rfl)) (by rfl) (by rfl) (by rfl) ?_
      refine wot_o rfl (by exact opt_len_own (by rfl) (by rfl) (by rfl) (by rfl)) (by rfl) (by rfl) (by rfl) ?_
      refine wot_o rfl (opt_subN (by rfl) (by rfl) (by rfl) (by rfl) (by omega) (by omega)) (by rfl) (by rfl) (by rfl) ?_
      refine wot_o rfl (by exact opt_slice_own_hi (by rfl) (by rfl) (by rfl) (by rfl) (by rfl) (by omega) (by omega) (by rfl)) (by rfl) (by rfl) (by rfl) ?_
      refine wot_o rfl (opt_assign (by rfl) (by rfl)) (by rfl) (by rfl) (by rfl) ?_
      refine wot_nil ?_
      refine wct_region_seq (by simp) ?_
      refine wot_o rfl (opt_move (by rfl) (by rfl)) (by rfl) (by rfl) (by rfl) ?_
      refine wot_o rfl (opt_move (by rfl) (by rfl)) (by rfl) (by rfl) (by rfl) ?_
      refine wot_o rfl (by exact opt_fieldAddr_fp (by rfl) (by rfl)) (by rfl) (by rfl) (by rfl) ?_
      refine wot_o rfl (by exact opt_load_fp_1 (by rfl) (by rfl) (by rfl)) (by rfl) (by rfl) (by rfl) ?_
      refine wot_o rfl (opt_move (by rfl) (by rfl)) (by rfl) (by rfl) (by rfl) ?_
      refine wot_o rfl (by exact opt_index_lst (by rfl) (by rfl) (by rfl) (by rfl) (by omega) (by omega) (by rfl)) (by rfl) (by rfl) (by rfl) ?_
      refine wot_o rfl (by exact opt_fieldAddr_fp (by rfl) (by rfl)) (by rfl) (by rfl) (by rfl) ?_
      refine wot_o (x := Enc.tv (at' c.b (at' zs (m - 1)).toNat).t) rfl (opt_as (by exact opt_load_fp_a (by rfl) (by rfl) (by rfl)) (by rfl)) (by rfl) (by rfl) (by rfl) ?_
      refine wot_o rfl (opt_move (by rfl) (by rfl)) (by rfl) (by rfl) (by rfl) ?_
      refine wot_c hTb rfl (call_bin (by rfl) (by rfl)) (by refine Drs.cons (by exact Dr.cl (by exact Enc.cl _)) ?_; refine Drs.cons (by exact dr_ow (by rfl) (by omega) (by rfl) (by omega) (by exact Nat.le_refl _)) ?_; exact Drs.nil) (pu45 (by assumption) (by assumption) (by assumption)) (by exact Enc.cl _) (by rfl) (by rfl) (by rfl) ?_
      refine wot_o rfl (by exact opt_index_l (by rfl) (by rfl) (by rfl) (by rfl) (by rfl) (by omega) (by omega)) (by rfl) (by rfl) (by rfl) ?_
      refine wot_of0 rfl (by exact opt_store_l (by rfl) (by rfl) (by rfl) (by rfl) (by rfl) (by trivial) (by rfl) (by omega) (by rfl) (by rfl)) (EffOk.pure hX) (by rfl) (by rfl) ?_
      refine wot_nil ?_
      refine wct_draw_seq (by kernel_rfl) (u := []) (by kernel_rfl) ?_
      refine wtt_o rfl (by exact opt_fieldAddr_fp (by rfl) (by rfl)) (by rfl) (by rfl) (by rfl) ?_
      refine wtt_o rfl (by exact opt_load_fp_1 (by rfl) (by rfl) (by rfl)) (by rfl) (by rfl) (by rfl) ?_
      refine wtt_o rfl (opt_move (by rfl) (by rfl)) (by rfl) (by rfl) (by rfl) ?_
      refine wtt_o rfl (by exact opt_index_lst (by rfl) (by rfl) (by rfl) (by rfl) (by omega) (by omega) (by rfl)) (by rfl) (by rfl) (by rfl) ?_
      refine wtt_o (x := Enc.tv (at' c.b (at' zs (m - 1)).toNat)) rfl (opt_as (by exact opt_load_fp_row (by rfl) (by rfl) (by rfl)) (by rfl)) (by rfl) (by rfl) (by rfl) ?_
      refine wtt_o rfl (opt_move (by rfl) (by rfl)) (by rfl) (by rfl) (by rfl) ?_
      refine wtt_o rfl (opt_move (by rfl) (by rfl)) (by rfl) (by rfl) (by rfl) ?_
      refine wtt_o rfl (by exact opt_index_l (by rfl) (by rfl) (by rfl) (by rfl) (by rfl) (by omega) (by omega)) (by rfl) (by rfl) (by rfl) ?_
      refine wtt_o (x := Enc.tv (at' ((x.out.map ofB).set (at' zs (m - 1)).toNat (neededB (at' c.b (at' zs (m - 1)).toNat).t (x.in_.map ofB))) (at' zs (m - 1)).toNat)) rfl (opt_as (by exact opt_load_l (by rfl) (by rfl) (by rfl) (by (simp only [List.length_append, List.length_cons, List.length_nil, List.length_take, List.length_drop, List.length_set, List.length_replicate]; omega)) (by rfl) (by rfl)) (by rfl)) (by rfl) (by rfl) (by rfl) ?_
      refine wtt_c hTb rfl (call_bin (by rfl) (by rfl)) (by refine Drs.cons (by exact Dr.cl (by exact Enc.cl _)) ?_; refine Drs.cons (by exact Dr.cl (by exact Enc.cl _)) ?_; refine Drs.cons (by exact Dr.cl (by exact Cl.v _)) ?_; exact Drs.nil) (pu46 (k := 0) (Nat.zero_le _) hi1) (by exact Enc.cl _) (by rfl) (by rfl) (by rfl) ?_
      refine wtt_o rfl (opt_alloc (by rfl)) (by rfl) (by rfl) (by rfl) ?_
      refine wtt_of0 rfl (by exact opt_store_row (by rfl) (by rfl) (by rfl) (by rfl) (by rfl) (by trivial) (by exact (wflat_len _).trans (by simp only [List.length_set, BS.h, unionL_len])) (by rfl) (by rfl)) (EffOk.pure hX) (by rfl) (by rfl) ?_
      refine wtt_nil ?_
      refine ⟨trivial, ?_⟩
      refine wct_ghost (g_freeze (d := 13) rfl (by rw [hX]; rfl) rfl (Fz.pt (by rw [Enc.len]; exact Enc.pos))) ?_
      refine wct_ghost (g_pop (F := [(13, .fp false (cls (atB (at' c.b (at' zs (m - 1)).toNat).i (at' ((x.out.map ofB).set (at' zs (m - 1)).toNat (neededB (at' c.b (at' zs (m - 1)).toNat).t (x.in_.map ofB))) (at' zs (m - 1)).toNat) 0)) 0), (12, ti (at' zs (m - 1))), (1, .fp false (cls c) 0), (2, .pt 0 0 0), (3, ti (c.b.length : Int)), (4, .own 1 0 4 0 c.b.length c.b.length), (5, .own 2 0 4 0 c.b.length c.b.length), (7, .own 3 0 1 0 c.b.length c.b.length), (8, .own 4 g 1 0 (m - 1) cap)]) (Th1 := [⟨0, some (38, [.v (.slice none 0 0), .v (.slice none 0 0)])⟩, rl 0 93 (x.in_.map ofB), rl 0 93 ((x.out.map ofB).set (at' zs (m - 1)).toNat (neededB (at' c.b (at' zs (m - 1)).toNat).t (x.in_.map ofB))), rl 0 47 fr, rl g 3 zs]) (by rfl) (by (rw [hX]; exact Nat.zero_le _)) (by exact ⟨rfl, rfl, rfl, rfl, rfl, rfl, rfl, rfl, rfl, trivial⟩) (by refine ⟨by exact Lo.cl (Cl.fp (cls_cl _)), ?_⟩; refine ⟨by exact Lo.cl (Cl.v _), ?_⟩; refine ⟨by exact Lo.cl (Cl.fp (cls_cl _)), ?_⟩; refine ⟨by exact Lo.pt (by rfl), ?_⟩; refine ⟨by exact Lo.cl (Cl.v _), ?_⟩; refine ⟨by exact Lo.own (by rfl), ?_⟩; refine ⟨by exact Lo.own (by rfl), ?_⟩; refine ⟨by exact Lo.own (by rfl), ?_⟩; refine ⟨by exact Lo.own (by rfl), ?_⟩; exact trivial) (by refine ⟨by (exact lo_all rfl), ?_⟩; refine ⟨by (intro c hc; exact Lo.cl (flat_cl _ c hc)), ?_⟩; refine ⟨by (intro c hc; exact Lo.cl (flat_cl _ c hc)), ?_⟩; refine ⟨by (intro c hc; exact Lo.cl (flat_cl _ c hc)), ?_⟩; refine ⟨by (intro c hc; exact Lo.cl (flat_cl _ c hc)), ?_⟩; exact trivial)) ?_
      refine wct_draw_seq (by kernel_rfl) (u := []) (by kernel_rfl) ?_
      refine wtt_o (x := Enc.tv (atB (at' c.b (at' zs (m - 1)).toNat).i (at' ((x.out.map ofB).set (at' zs (m - 1)).toNat (neededB (at' c.b (at' zs (m - 1)).toNat).t (x.in_.map ofB))) (at' zs (m - 1)).toNat) 0)) rfl (opt_as (by exact opt_load_fp_row (by rfl) (by rfl) (by exact (wflat_len _).trans (by simp only [List.length_set, BS.h, unionL_len]))) (by rfl)) (by rfl) (by rfl) (by rfl) ?_
      refine wtt_o rfl (opt_move (by rfl) (by rfl)) (by rfl) (by rfl) (by rfl) ?_
      refine wtt_o rfl (opt_move (by rfl) (by rfl)) (by rfl) (by rfl) (by rfl) ?_
      refine wtt_o rfl (by exact opt_index_l (by rfl) (by rfl) (by rfl) (by rfl) (by rfl) (by omega) (by omega)) (by rfl) (by rfl) (by rfl) ?_
      refine wtt_o (x := Enc.tv (at' (x.in_.map ofB) (at' zs (m - 1)).toNat)) rfl (opt_as (by exact opt_load_l (by rfl) (by rfl) (by rfl) (by omega) (by rfl) (by rfl)) (by rfl)) (by rfl) (by rfl) (by rfl) ?_
      refine wtt_o rfl (opt_neqB (by rfl) (by rfl) (by rfl) (by rfl)) (by rfl) (by rfl) (by rfl) ?_
      refine wtt_nil ?_
      refine ⟨trivial, ?_⟩
      refine wct_if (by rfl) (by rfl) (fun c5 => ?_) (fun c5 => ?_)
      · (skip)
        try simp only [Int.toNat_natCast] at c5
        refine wct_region_seq (by simp) ?_
        refine wot_o rfl (opt_move (by rfl) (by rfl)) (by rfl) (by rfl) (by rfl) ?_
        refine wot_o rfl (opt_move (by rfl) (by rfl)) (by rfl) (by rfl) (by rfl) ?_
        refine wot_o (x := Enc.tv (atB (at' c.b (at' zs (m - 1)).toNat).i (at' ((x.out.map ofB).set (at' zs (m - 1)).toNat (neededB (at' c.b (at' zs (m - 1)).toNat).t (x.in_.map ofB))) (at' zs (m - 1)).toNat) 0)) rfl (opt_as (by exact opt_load_fp_row (by rfl) (by rfl) (by exact (wflat_len _).trans (by simp only [List.length_set, BS.h, unionL_len]))) (by rfl)) (by rfl) (by rfl) (by rfl) ?_
        refine wot_o rfl (by exact opt_index_l (by rfl) (by rfl) (by rfl) (by rfl) (by rfl) (by omega) (by omega)) (by rfl) (by rfl) (by rfl) ?_
        refine wot_of0 rfl (by exact opt_store_l (by rfl) (by rfl) (by rfl) (by rfl) (by rfl) (by trivial) (by rfl) (by omega) (by rfl) (by rfl)) (EffOk.pure hX) (by rfl) (by rfl) ?_
        refine wot_nil ?_
        refine wct_region (by simp) ?_
        refine wot_o rfl (opt_move (by rfl) (by rfl)) (by rfl) (by rfl) (by rfl) ?_
        refine wot_o rfl (opt_move (by rfl) (by rfl)) (by rfl) (by rfl) (by rfl) ?_
        refine wot_o rfl (opt_move (by rfl) (by rfl)) (by rfl) (by rfl) (by rfl) ?_
        refine wot_o rfl (by exact opt_index_l (by rfl) (by rfl) (by rfl) (by rfl) (by rfl) (by omega) (by omega)) (by rfl) (by rfl) (by rfl) ?_
        refine wot_o rfl (by exact opt_load_l1 (by rfl) (by rfl) (by rfl) (by omega) (by rfl) (by rfl)) (by rfl) (by rfl) (by rfl) ?_
        refine wot_of rfl (by exact opt_append_q (by rfl) (by rfl) (by rfl) (by omega) src_lst (by rfl) (by rfl) (by rfl) (by omega) (by rfl) (by rfl)) (EffOk.pure hX) (by rfl) (by rfl) (by rfl) ?_
        refine wot_o rfl (opt_assign (by rfl) (by rfl)) (by rfl) (by rfl) (by rfl) ?_
        refine wot_nil ?_
        (refine qbt_normal ?_; refine qst_loop ?_)
        have hne : at' x.in_ (at' zs (m - 1)).toNat ≠ atI (at' c.b (at' zs (m - 1)).toNat).i (neededI (at' c.b (at' zs (m - 1)).toNat).t x.in_) 0 := fun e => c5 (by rw [eA, eI, e])
        obtain ⟨hd2, hd3⟩ := hdiff hne
        refine rnd (g + 1, (zs.take (m - 1) ++ at' fr (at' zs (m - 1)).toNat).length, (zs.take (m - 1) ++ at' fr (at' zs (m - 1)).toNat).length, (zs.take (m - 1) ++ at' fr (at' zs (m - 1)).toNat), oneB c x (at' zs (m - 1)).toNat) ?_ ?_ (by exact ⟨rfl, rfl, rfl, rfl, rfl, rfl, rfl, trivial⟩) (by dsimp only; rw [hinO, houtO]; rfl)
        · dsimp only
          rw [List.take_length]; exact hd3
        · dsimp only
          rw [List.take_length]
          exact ⟨Nat.le_refl _, Nat.le_refl _, hd2, by omega⟩
      · (refine wct_skip ?_; refine qbt_normal ?_; refine qst_loop ?_)
        try simp only [Int.toNat_natCast] at c5
        have he : at' x.in_ (at' zs (m - 1)).toNat = atI (at' c.b (at' zs (m - 1)).toNat).i (neededI (at' c.b (at' zs (m - 1)).toNat).t x.in_) 0 := ((ofB_inj hokA hokI).1 (by rw [← eA, ← eI]; exact Decidable.not_not.1 c5)).symm
        obtain ⟨hd2, hd3, hd4⟩ := hsame he
        refine rnd (g, m - 1, cap, zs, oneB c x (at' zs (m - 1)).toNat) ?_ ?_ (by exact ⟨rfl, rfl, rfl, rfl, rfl, rfl, rfl, trivial⟩) (by dsimp only; rw [hd4, houtO])
        · exact hd3
        · dsimp only
          exact ⟨by omega, by omega, hd2, by omega⟩
    · (refine wct_exit_seq ?_; refine qst_exit ?_; refine qbt_same ?_; refine qst_wct ?_)
      try simp only [Int.toNat_natCast] at c4
      have hL : Least c x := by
          obtain rfl : m = 0 := by omega
          rw [List.take_zero] at hW
          exact hW.done
      have hli := hL.li
      have hlo := hL.lo
      have hl1 : (x.in_.map ofB).length = c.b.length := by rw [List.length_map]; exact hli
      have hl2 : (x.out.map ofB).length = c.b.length := by rw [List.length_map]; exact hlo
      refine wct_region_seq (by simp) ?_
      refine wot_o rfl (opt_alloc (by rfl)) (by rfl) (by rfl) (by rfl) ?_
      refine wot_nil ?_
      (refine wct_assoc ?_)
      refine wct_ghost (g_nilcell (i := 5) 0 1 47 rfl rfl) ?_
      refine wct_ghost (g_nilcell (i := 5) 1 1 47 rfl rfl) ?_
      refine wct_region_seq (by simp) ?_
      refine wot_o rfl (opt_move (by rfl) (by rfl)) (by rfl) (by rfl) (by rfl) ?_
      refine wot_o rfl (opt_move_c (by rfl)) (by rfl) (by rfl) (by rfl) ?_
      refine wot_nil ?_
      refine wct_loop3 (fun (k : Nat) (ls : List (List Int)) (ms : List (List Int)) => k ≤ c.b.length ∧ ls = x.in_.take k ∧ ms = x.out.take k ∧ ls.length = k ∧ ms.length = k) (fun (k : Nat) (ls : List (List Int)) (ms : List (List Int)) => [(1, .fp false (cls c) 0), (2, .pt 0 0 0), (3, ti (c.b.length : Int)), (4, .own 1 0 4 0 c.b.length c.b.length), (5, .own 2 0 4 0 c.b.length c.b.length), (14, .pt 5 0 0), (115, ti (c.b.length : Int)), (116, ti (k : Int))]) (fun (k : Nat) (ls : List (List Int)) (ms : List (List Int)) => [⟨0, some (38, [.v (.slice none 0 0), .v (.slice none 0 0)])⟩, rl 0 93 (x.in_.map ofB), rl 0 93 (x.out.map ofB), rl 0 47 fr, rl g 3 zs, ⟨0, some (38, [ownl 6 k ls, ownl 7 k ms])⟩, rl k 47 ls, rl k 47 ms]) (fun (k : Nat) (ls : List (List Int)) (ms : List (List Int)) => c.b.length - k) 0 [] [] (by exact ⟨rfl, rfl, rfl, rfl, rfl, rfl, rfl, rfl, trivial⟩) (by rfl) ?_ ?_
      · exact ⟨by omega, by simp, by simp, rfl, rfl⟩
      rintro k ls ms ⟨hk, h1, h2, h3, h4⟩
      refine wct_region_seq (by simp) ?_
      refine wot_o rfl (opt_cmp (by rfl) (by rfl) (by rfl) (by rfl) (by rfl)) (by rfl) (by rfl) (by rfl) ?_
      refine wot_nil ?_
      refine wct_if_seq (by rfl) (by rfl) (fun c6 => ?_) (fun c6 => ?_)
      · (refine wct_skip_seq ?_; refine wct_block_sq ?_)
        try simp only [Int.toNat_natCast] at c6
        refine wct_region_seq (by simp) ?_
        refine wot_o rfl (opt_move (by rfl) (by rfl)) (by rfl) (by rfl) (by rfl) ?_
        refine wot_o rfl (opt_assign (by rfl) (by rfl)) (by rfl) (by rfl) (by rfl) ?_
        refine wot_nil ?_
        refine wct_draw (by kernel_rfl) (u := [(1, 6), (10, 6), (10, 8), (10, 15), (14, 6), (14, 8)]) (by kernel_rfl) ?_
        refine wtt_o rfl (by exact opt_fieldAddr_pt (by rfl) (by rfl) (by rfl) (by rfl)) (by rfl) (by rfl) (by rfl) ?_
        refine wtt_o rfl (by exact opt_load_pt_1 (by rfl) (by rfl) (by rfl) (by rfl)) (by rfl) (by rfl) (by rfl) ?_
        refine wtt_o rfl (opt_move (by rfl) (by rfl)) (by rfl) (by rfl) (by rfl) ?_
        refine wtt_o rfl (opt_move (by rfl) (by rfl)) (by rfl) (by rfl) (by rfl) ?_
        refine wtt_o rfl (by exact opt_index_lN (by rfl) (by rfl) (by rfl) (by rfl) (by rfl) (by omega)) (by rfl) (by rfl) (by rfl) ?_
        refine wtt_o (x := Enc.tv (at' (x.in_.map ofB) k)) rfl (opt_as (by exact opt_load_l (by rfl) (by rfl) (by rfl) (by omega) (by rfl) (by rfl)) (by rfl)) (by rfl) (by rfl) (by rfl) ?_
        refine wtt_c hTb rfl (call_bin (by rfl) (by rfl)) (by refine Drs.cons (by exact Dr.cl (by exact Enc.cl _)) ?_; exact Drs.nil) (pu47) (by exact lst_cl _) (by rfl) (by rfl) (by rfl) ?_
        refine wtt_o rfl (opt_lit_l ([listB (at' (x.in_.map ofB) k)]) (by rfl) (by rfl) (by rfl) (by rfl) (by rfl) (by rfl) (by rfl) (by rfl) (by rfl) (by rfl)) (by rfl) (by rfl) (by rfl) ?_
        refine wtt_of rfl (by exact opt_append_l (by rfl) (by rfl) (by rfl) (by rfl) src_lst (by rfl) (by rfl) (by rfl) (by (simp only [List.length_append, List.length_cons, List.length_nil, List.length_take, List.length_drop]; omega)) (by rfl)) (EffOk.pure hX) (by rfl) (by rfl) (by rfl) ?_
        refine wtt_o rfl (by exact opt_fieldAddr_pt (by rfl) (by rfl) (by rfl) (by rfl)) (by rfl) (by rfl) (by rfl) ?_
        refine wtt_o rfl (by exact opt_load_pt_1 (by rfl) (by rfl) (by rfl) (by rfl)) (by rfl) (by rfl) (by rfl) ?_
        refine wtt_o rfl (opt_move (by rfl) (by rfl)) (by rfl) (by rfl) (by rfl) ?_
        refine wtt_o rfl (opt_move (by rfl) (by rfl)) (by rfl) (by rfl) (by rfl) ?_
        refine wtt_o rfl (by exact opt_index_lN (by rfl) (by rfl) (by rfl) (by rfl) (by rfl) (by omega)) (by rfl) (by rfl) (by rfl) ?_
        refine wtt_o (x := Enc.tv (at' (x.out.map ofB) k)) rfl (opt_as (by exact opt_load_l (by rfl) (by rfl) (by rfl) (by omega) (by rfl) (by rfl)) (by rfl)) (by rfl) (by rfl) (by rfl) ?_
        refine wtt_c hTb rfl (call_bin (by rfl) (by rfl)) (by refine Drs.cons (by exact Dr.cl (by exact Enc.cl _)) ?_; exact Drs.nil) (pu47) (by exact lst_cl _) (by rfl) (by rfl) (by rfl) ?_
        refine wtt_o rfl (opt_lit_l ([listB (at' (x.out.map ofB) k)]) (by rfl) (by rfl) (by rfl) (by rfl) (by rfl) (by rfl) (by rfl) (by rfl) (by rfl) (by rfl)) (by rfl) (by rfl) (by rfl) ?_
        refine wtt_of rfl (by exact opt_append_l (by rfl) (by rfl) (by rfl) (by rfl) src_lst (by rfl) (by rfl) (by rfl) (by (simp only [List.length_append, List.length_cons, List.length_nil, List.length_take, List.length_drop]; omega)) (by rfl)) (EffOk.pure hX) (by rfl) (by rfl) (by rfl) ?_
        refine wtt_o rfl (by exact opt_fieldAddr_pt (by rfl) (by rfl) (by rfl) (by rfl)) (by rfl) (by rfl) (by rfl) ?_
        refine wtt_of0 rfl (by exact opt_store (by rfl) (by rfl) (by rfl) (by rfl) (by rfl) (by trivial) (by rfl) (by rfl) (by rfl)) (EffOk.pure hX) (by rfl) (by rfl) ?_
        refine wtt_o rfl (by exact opt_fieldAddr_pt (by rfl) (by rfl) (by rfl) (by rfl)) (by rfl) (by rfl) (by rfl) ?_
        refine wtt_of0 rfl (by exact opt_store (by rfl) (by rfl) (by rfl) (by rfl) (by rfl) (by trivial) (by rfl) (by rfl) (by rfl)) (EffOk.pure hX) (by rfl) (by rfl) ?_
        refine wtt_nil ?_
        refine ⟨⟨(by exact chk_pt (t := 36) (by rfl) (by rfl) (by rfl) (by rfl) (by rfl) (by rfl) (by rfl) (by rfl) (by rfl)), (by exact chk_pt (t := 36) (by rfl) (by rfl) (by rfl) (by rfl) (by rfl) (by rfl) (by rfl) (by rfl) (by rfl)), (by exact chk_pt (t := 36) (by rfl) (by rfl) (by rfl) (by rfl) (by rfl) (by rfl) (by rfl) (by rfl) (by rfl)), (by exact chk_pt (t := 36) (by rfl) (by rfl) (by rfl) (by rfl) (by rfl) (by rfl) (by rfl) (by rfl) (by rfl)), (by exact chk_pt (t := 93) (by rfl) (by rfl) (by rfl) (by rfl) (by rfl) (by rfl) (by rfl) (by rfl) (by (rw [Nat.blt_eq, flat_len]; exact Nat.mul_pos (by omega) Enc.pos))), (by exact chk_pt (t := 93) (by rfl) (by rfl) (by rfl) (by rfl) (by rfl) (by rfl) (by rfl) (by rfl) (by (rw [Nat.blt_eq, flat_len]; exact Nat.mul_pos (by omega) Enc.pos))), trivial⟩, ?_⟩
        (refine qbt_normal ?_; refine qst_wct ?_)
        refine wct_region (by simp) ?_
        refine wot_o rfl (opt_add (by rfl) (by rfl) (by rfl) (by rfl) (by constructor <;> omega)) (by rfl) (by rfl) (by rfl) ?_
        refine wot_o rfl (opt_move (by rfl) (by rfl)) (by rfl) (by rfl) (by rfl) ?_
        refine wot_nil ?_
        (refine qst_loop ?_)
        refine rnd (k + 1, ls ++ [listB (at' (x.in_.map ofB) k)], ms ++ [listB (at' (x.out.map ofB) k)]) (by (try simp only); omega) ?_ (by exact ⟨rfl, rfl, rfl, rfl, rfl, rfl, rfl, rfl, trivial⟩) (by rfl)
        try dsimp only
        have o := hL.ok k (by omega)
        rw [at_map (by omega), at_map (by omega), listB_ofB (o.1.w hrg.2), listB_ofB (o.2.w hrg.2), take_succ (by omega), take_succ (by omega), h1, h2]
        refine ⟨by omega, rfl, rfl, ?_, ?_⟩
        · rw [← h1, List.length_append, List.length_singleton, h3]
        · rw [← h2, List.length_append, List.length_singleton, h4]
      · (refine wct_exit_seq ?_; refine qst_exit ?_; refine qbt_same ?_; refine qst_wct ?_)
        try simp only [Int.toNat_natCast] at c6
        refine wct_region_seq (by simp) ?_
        refine wot_o rfl (by exact opt_load_row (by rfl) (by rfl) (by rfl) (by rfl) (by rfl)) (by rfl) (by rfl) (by rfl) ?_
        refine wot_of0 rfl (by exact opt_store_row (by rfl) (by rfl) (by rfl) (by rfl) (by rfl) (by trivial) (by rfl) (by rfl) (by rfl)) (EffOk.pure hX) (by rfl) (by rfl) ?_
        refine wot_nil ?_
        (refine wct_ret ?_)
        refine finp_cell (by simp) rfl (by rfl) (by rfl) (by rfl) (by rfl) (Dr.agg (.cons (dr_ow (by rfl) rfl (by rfl) (by omega) (Nat.le_refl _)) (.cons (dr_ow (by rfl) rfl (by rfl) (by omega) (Nat.le_refl _)) .nil))) ⟨x, ?_, hL⟩
        have e1 : ls = x.in_ := by rw [h1]; exact List.take_of_length_le (by omega)
        have e2 : ms = x.out := by rw [h2]; exact List.take_of_length_le (by omega)
        rw [e1, e2]; rfl
end Go.Ab
