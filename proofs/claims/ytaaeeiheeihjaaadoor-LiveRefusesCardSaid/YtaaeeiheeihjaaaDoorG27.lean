/- The road to a card of this seat: G27. Each theorem holds for every input that its own premises speak of. -/
import Derived.Test.YtaaeeiheeihjaaaDoorG26
set_option linter.all false
namespace Go.Ab
open Go.Proofs
section
variable {Z : Root} {L : List U8} {s : MS} {A : Nat} {lim : Int} {nb nl : Nat} {rg : Int}
theorem im35z (h : St s A lim nb nl rg) (hA : A ≤ 2 ^ 17) (hL : LOk L) : Im Tryd.prog 35 [.pt 1 0 0] (mR Z L s) (fun r Th' e => ((∃ v : Nat, r = ti (v : Int) ∧ v < 256) ∧ Th' = mR Z L s.adv) ∧ e = .at 1 1 2) := by
  have := im35 (Z := Z) (L := L) (s := s) (ex := []) (by have := h.mi.pos; omega) hL
  simp only [List.append_nil] at this
  exact this
theorem im40z (h : St s A lim nb nl rg) (hA : A ≤ 2 ^ 17) (hL : LOk L) : Im Tryd.prog 40 [.pt 1 0 0] (mR Z L s) (fun r Th' e => ((∃ v : Int, r = Enc.tv (rO v) ∧ 0 ≤ v ∧ v < 6) ∧ ∃ gar, Th' = mR Z L s.adv ++ gar) ∧ e = .at 1 1 2) := by
  have := im40 (Z := Z) (L := L) (s := s) (ex := []) (by have := h.mi.pos; omega) hL
  simp only [List.append_nil, List.nil_append] at this
  exact this
theorem im76z {i : Inst} (h : St s A lim nb nl rg) (hA : A ≤ 2 ^ 17) (hL : LOk L) (h0 : 0 < nb) : Im Tryd.prog 76 [.pt 1 0 0, Enc.tv i] (mR Z L s) (fun r Th' e => (r = .tup [] ∧ Th' = mR Z L (s.put i)) ∧ e = allD (s.bs.length + 4)) := by
  have := im76 (Z := Z) (L := L) (s := s) (ex := []) (i := i) (by rw [h.nb]; exact h0) (by have := h.mi.bl; omega) (fun b hb => by have := h.mi.il b hb; omega)
  simp only [List.append_nil] at this
  exact this
theorem im39z (h : St s A lim nb nl rg) (hA : A ≤ 2 ^ 17) : Im Tryd.prog 39 [.pt 1 0 0] (mR Z L s) (fun r Th' e => (r = .tup [] ∧ Th' = mR Z L s.addB) ∧ e = allD (s.bs.length + 4)) := im39 (by have := h.mi.bl; omega)
theorem im42z (h : St s A lim nb nl rg) (hA : A ≤ 2 ^ 17) (hL : LOk L) (h0 : 0 < nb) : Im Tryd.prog 42 [.pt 1 0 0] (mR Z0 L s) (fun r Th' e => (∃ s', Th' = mR Z0 L s' ∧ Stp s s' 81) ∧ e = allD (s.bs.length + 4)) := im42 h.mi (by omega) hL (by rw [h.nb]; exact h0)
end
theorem opt_addNC {P : Program} {X : Cx} {E : TEnv} {Th : List Root} {t u : TypeId} {x y : Operand} {a b : Nat} {c : Int} (hx : evTV E x = some (ti (a : Int))) (hy : evTV E y = some (ti c)) (o1 : okOpd P x = true) (o2 : okOpd P y = true) (hc : c = (b : Int)) (h : a + b < 2 ^ 63) : OpT P X E Th (.binOp .add t x y u) (ti ((a + b : Nat) : Int)) Th .no := by
  subst hc
  have := opt_add (t := t) (u := u) (X := X) (Th := Th) hx hy o1 o2 (by constructor <;> omega)
  rwa [show (a : Int) + (b : Int) = ((a + b : Nat) : Int) by omega] at this
set_option maxHeartbeats 4000000 in
theorem im38 {L : List U8} {s : MS} {A nb nl : Nat} {rg : Int} (h : St s A nb nb nl rg) (hrg : rg = 6 + 2 * (nl : Int)) (hA : A + 120 ≤ 2 ^ 16) (hL : LOk L) (h0 : 0 < nb) (hnl : nl ≤ 2 ^ 16) : Im Tryd.prog 38 [.pt 1 0 0] (mR Z0 L s) (fun r Th' e => (∃ s', (∃ gar, Th' = mR Z0 L s' ++ gar) ∧ St s' (A + 120) (nb + 3) (nb + 2) (nl + 1) (rg + 2)) ∧ e = allD (s.bs.length + 4)) := by
  have h := h.lims (l := nb + 3) (by omega)
  have hnbA := h.mi.bl
  rw [h.nb] at hnbA
  have hA0 := hA
  replace hA : A + 120 ≤ 2 ^ 17 := by omega
  have hs0 := h.nb
  have hsl := h.nl
  refine im_fn (allD (s.bs.length + 4)) fn38 (by rfl) (by rfl) (by rfl) fun X hX hF hTb => ?_
  have hXF : X.f = allD X.p.length := by rw [hF, hX, mR_len]
  refine wct_region_seq (by simp) ?_
  refine wot_o rfl (opt_move (by rfl) (by rfl)) (by rfl) (by rfl) (by rfl) ?_
  refine wot_o rfl (by exact opt_nilCheck_pt (by rfl) (by rfl) (by rfl) (by rfl)) (by rfl) (by rfl) (by rfl) ?_
  refine wot_o rfl (by exact opt_fieldAddr_pt (by rfl) (by rfl) (by rfl) (by rfl)) (by rfl) (by rfl) (by rfl) ?_
  refine wot_o rfl (by exact opt_fieldAddr_pt (by rfl) (by rfl) (by rfl) (by rfl)) (by rfl) (by rfl) (by rfl) ?_
  refine wot_o rfl (by exact opt_load_pt_1 (by rfl) (by rfl) (by rfl) (by rfl)) (by rfl) (by rfl) (by rfl) ?_
  refine wot_o rfl (by exact opt_len_own (by rfl) (by rfl) (by rfl) (by rfl)) (by rfl) (by rfl) (by rfl) ?_
  refine wot_o rfl (opt_mul (by rfl) (by rfl) (by rfl) (by rfl) (by constructor <;> omega)) (by rfl) (by rfl) (by rfl) ?_
  refine wot_o rfl (opt_add (by rfl) (by rfl) (by rfl) (by rfl) (by constructor <;> omega)) (by rfl) (by rfl) (by rfl) ?_
  refine wot_o rfl (opt_assign (by rfl) (by rfl)) (by rfl) (by rfl) (by rfl) ?_
  refine wot_nil ?_
  refine wct_ghost (E' := [(0, .pt 1 0 0), (2, ti (6 + 2 * (s.loops.length : Int)))]) (Th' := mR Z0 L s) (fun T G p h => ⟨p, Rl.sub (F := [(0, .pt 1 0 0), (2, ti (6 + 2 * (s.loops.length : Int)))]) (show Rl X _ (mR Z0 L s) T G p from h) (by exact ⟨rfl, rfl, trivial⟩)⟩) ?_
  rw [hsl, ← hrg]
  refine wct_region_seq (by simp) ?_
  refine wot_o rfl (opt_move (by rfl) (by rfl)) (by rfl) (by rfl) (by rfl) ?_
  refine wot_ci hTb rfl (call_bin (by rfl) (by rfl)) (im35z (h.le (B := A + 120) (by omega)) hA hL) (fun _ _ _ h => h.2) (allD_ok hXF _) (by rfl) (by rfl) (by rfl) ?_
  rintro r Th' ⟨⟨⟨v, rfl, hv⟩, rfl⟩, _⟩
  refine wot_o rfl (by exact opt_remNC (by rfl) (by rfl) (by rfl) (by rfl)) (by rfl) (by rfl) (by rfl) ?_
  refine wot_o rfl (opt_add (by rfl) (by rfl) (by rfl) (by rfl) (by constructor <;> omega)) (by rfl) (by rfl) (by rfl) ?_
  refine wot_o rfl (opt_assign (by rfl) (by rfl)) (by rfl) (by rfl) (by rfl) ?_
  refine wot_nil ?_
  obtain ⟨s1, es1, h1⟩ : ∃ q, q = s.adv ∧ St q (A + 1) (nb + 3) nb nl rg := ⟨_, rfl, h.adv⟩
  rw [← es1]
  have ls1 := h1.nb
  refine wct_region_seq (by simp) ?_
  refine wot_o rfl (opt_move (by rfl) (by rfl)) (by rfl) (by rfl) (by rfl) ?_
  refine wot_o rfl (opt_move (by rfl) (by rfl)) (by rfl) (by rfl) (by rfl) ?_
  refine wot_o rfl (opt_add (by rfl) (by rfl) (by rfl) (by rfl) (by constructor <;> omega)) (by rfl) (by rfl) (by rfl) ?_
  refine wot_o rfl (by exact opt_nilCheck_pt (by rfl) (by rfl) (by rfl) (by rfl)) (by rfl) (by rfl) (by rfl) ?_
  refine wot_o rfl (by exact opt_fieldAddr_pt (by rfl) (by rfl) (by rfl) (by rfl)) (by rfl) (by rfl) (by rfl) ?_
  refine wot_o rfl (by exact opt_fieldAddr_pt (by rfl) (by rfl) (by rfl) (by rfl)) (by rfl) (by rfl) (by rfl) ?_
  refine wot_of0 rfl (by exact opt_store (by rfl) (by rfl) (by rfl) (by rfl) (by rfl) (by trivial) (by rfl) (by rfl) (by rfl)) (allD_ok hXF _) (by rfl) (by rfl) ?_
  refine wot_nil ?_
  refine wct_ghost (E' := [(0, .pt 1 0 0), (2, ti rg), (3, ti (1 + ((v % 3 : Nat) : Int)))]) (Th' := mR Z0 L (s1.withR (rg + 2))) (fun T G p h => ⟨p, Rl.sub (F := [(0, .pt 1 0 0), (2, ti rg), (3, ti (1 + ((v % 3 : Nat) : Int)))]) (show Rl X _ (mR Z0 L (s1.withR (rg + 2))) T G p from h) (by exact ⟨rfl, rfl, rfl, trivial⟩)⟩) ?_
  obtain ⟨s2, es2, h2⟩ : ∃ q, q = s1.withR (rg + 2) ∧ St q (A + 1) (nb + 3) nb nl (rg + 2) := ⟨_, rfl, h1.withR (by omega)⟩
  rw [← es2]
  have ls2 := h2.nb
  refine wct_region_seq (by simp) ?_
  refine wot_o rfl (opt_move (by rfl) (by rfl)) (by rfl) (by rfl) (by rfl) ?_
  refine wot_o rfl (by exact opt_nilCheck_pt (by rfl) (by rfl) (by rfl) (by rfl)) (by rfl) (by rfl) (by rfl) ?_
  refine wot_o rfl (by exact opt_fieldAddr_pt (by rfl) (by rfl) (by rfl) (by rfl)) (by rfl) (by rfl) (by rfl) ?_
  refine wot_o rfl (by exact opt_fieldAddr_pt (by rfl) (by rfl) (by rfl) (by rfl)) (by rfl) (by rfl) (by rfl) ?_
  refine wot_o rfl (by exact opt_load_pt_1 (by rfl) (by rfl) (by rfl) (by rfl)) (by rfl) (by rfl) (by rfl) ?_
  refine wot_o rfl (by exact opt_len_own (by rfl) (by rfl) (by rfl) (by rfl)) (by rfl) (by rfl) (by rfl) ?_
  refine wot_o rfl (opt_assign (by rfl) (by rfl)) (by rfl) (by rfl) (by rfl) ?_
  refine wot_nil ?_
  refine wct_ghost (E' := [(0, .pt 1 0 0), (2, ti rg), (3, ti (1 + ((v % 3 : Nat) : Int))), (4, ti (s2.bs.length : Int))]) (Th' := mR Z0 L s2) (fun T G p h => ⟨p, Rl.sub (F := [(0, .pt 1 0 0), (2, ti rg), (3, ti (1 + ((v % 3 : Nat) : Int))), (4, ti (s2.bs.length : Int))]) (show Rl X _ (mR Z0 L s2) T G p from h) (by exact ⟨rfl, rfl, rfl, rfl, trivial⟩)⟩) ?_
  rw [ls2]
  refine wct_region_seq (by simp) ?_
  refine wot_o rfl (opt_move (by rfl) (by rfl)) (by rfl) (by rfl) (by rfl) ?_
  refine wot_o rfl (opt_move (by rfl) (by rfl)) (by rfl) (by rfl) (by rfl) ?_
  refine wot_c hTb rfl (call_bin (by rfl) (by rfl)) (by refine Drs.cons (by exact Dr.cl (by exact Cl.v _)) ?_; exact Drs.nil) (pu74) (by exact Enc.cl _) (by rfl) (by rfl) (by rfl) ?_
  refine wot_c hTb rfl (call_bin (by rfl) (by rfl)) (by refine Drs.cons (by exact Dr.cl (by exact Cl.v _)) ?_; exact Drs.nil) (pu75) (by exact Enc.cl _) (by rfl) (by rfl) (by rfl) ?_
  refine wot_o (x := Enc.tv (⟨1, 0, 0, rO rg, kO 0, zO, zO⟩ : Inst)) rfl (opt_as (opt_build (by rfl) (by rfl) (by rfl) (by rfl)) (by rfl)) (by rfl) (by rfl) (by rfl) ?_
  refine wot_ci hTb rfl (call_bin (by rfl) (by rfl)) (im76z ((h2.le (B := A + 120) (by omega))) hA hL (by omega)) (fun _ _ _ h => h.2) (allD_ok hXF _) (by rfl) (by rfl) (by rfl) ?_
  rintro r Th' ⟨⟨rfl, rfl⟩, _⟩
  refine wot_nil ?_
  obtain ⟨s3, es3, h3⟩ : ∃ q, q = s2.put ⟨1, 0, 0, rO rg, kO 0, zO, zO⟩ ∧ St q (A + 2) (nb + 3) nb nl (rg + 2) := ⟨_, rfl, h2.put h0 (.mk' (by exact okN (by omega) (by omega)) (by exact okK) (by exact okZ) (by exact okZ))⟩
  rw [← es3]
  have ls3 := h3.nb
  refine wct_ghost (E' := [(0, .pt 1 0 0), (2, ti rg), (3, ti (1 + ((v % 3 : Nat) : Int))), (4, ti (nb : Int))]) (Th' := mR Z0 L s3) (fun T G p h => ⟨p, Rl.sub (F := [(0, .pt 1 0 0), (2, ti rg), (3, ti (1 + ((v % 3 : Nat) : Int))), (4, ti (nb : Int))]) (show Rl X _ (mR Z0 L s3) T G p from h) (by exact ⟨rfl, rfl, rfl, rfl, trivial⟩)⟩) ?_
  refine wct_region_seq (by simp) ?_
  refine wot_o rfl (opt_move (by rfl) (by rfl)) (by rfl) (by rfl) (by rfl) ?_
  refine wot_o rfl (by exact opt_nilCheck_pt (by rfl) (by rfl) (by rfl) (by rfl)) (by rfl) (by rfl) (by rfl) ?_
  refine wot_o rfl (by exact opt_fieldAddr_pt (by rfl) (by rfl) (by rfl) (by rfl)) (by rfl) (by rfl) (by rfl) ?_
  refine wot_o rfl (by exact opt_fieldAddr_pt (by rfl) (by rfl) (by rfl) (by rfl)) (by rfl) (by rfl) (by rfl) ?_
  refine wot_o rfl (by exact opt_load_pt_1 (by rfl) (by rfl) (by rfl) (by rfl)) (by rfl) (by rfl) (by rfl) ?_
  refine wot_o rfl (opt_move (by rfl) (by rfl)) (by rfl) (by rfl) (by rfl) ?_
  refine wot_o rfl (opt_subN (by rfl) (by rfl) (by rfl) (by rfl) (by omega) (by omega)) (by rfl) (by rfl) (by rfl) ?_
  refine wot_o rfl (opt_move (by rfl) (by rfl)) (by rfl) (by rfl) (by rfl) ?_
  refine wot_o rfl (opt_build (by rfl) (by rfl) (by rfl) (by rfl)) (by rfl) (by rfl) (by rfl) ?_
  refine wot_o (x := Enc.tv (⟨1, 0, zO, zO, zO, (nb : Int), 0⟩ : Term)) rfl (opt_as (opt_build (by rfl) (by rfl) (by rfl) (by rfl)) (by rfl)) (by rfl) (by rfl) (by rfl) ?_
  refine wot_o rfl (by exact opt_index_lN (by rfl) (by rfl) (by rfl) (by rfl) (by rfl) (by omega)) (by rfl) (by rfl) (by rfl) ?_
  refine wot_o rfl (opt_fieldAddr_pt (by rfl) (by rfl) (by rfl) (mR_cs (by omega))) (by rfl) (by rfl) (by rfl) ?_
  refine wot_of0 rfl (opt_setT0 (by rfl) (by rfl) (by rfl) (by rfl) (by rfl) (by omega)) (allD_ok hXF _) (by rfl) (by rfl) ?_
  refine wot_nil ?_
  obtain ⟨s4, es4, h4⟩ : ∃ q, q = s3.setT (nb - 1) ⟨1, 0, zO, zO, zO, (nb : Int), 0⟩ ∧ St q (A + 2) (nb + 3) nb nl (rg + 2) := ⟨_, rfl, h3.setT (by omega) (.mk' (by exact okZ) (by exact okZ) (by exact okZ) (by dsimp only; omega) (by dsimp only; omega))⟩
  rw [← es4]
  have ls4 := h4.nb
  refine wct_ghost (E' := [(0, .pt 1 0 0), (2, ti rg), (3, ti (1 + ((v % 3 : Nat) : Int))), (4, ti (nb : Int))]) (Th' := mR Z0 L s4) (fun T G p h => ⟨p, Rl.sub (F := [(0, .pt 1 0 0), (2, ti rg), (3, ti (1 + ((v % 3 : Nat) : Int))), (4, ti (nb : Int))]) (show Rl X _ (mR Z0 L s4) T G p from h) (by exact ⟨rfl, rfl, rfl, rfl, trivial⟩)⟩) ?_
  have hll := h4.nl
  refine wct_region_seq (by simp) ?_
  refine wot_o rfl (opt_move (by rfl) (by rfl)) (by rfl) (by rfl) (by rfl) ?_
  refine wot_o rfl (opt_move (by rfl) (by rfl)) (by rfl) (by rfl) (by rfl) ?_
  refine wot_o rfl (by exact opt_nilCheck_pt (by rfl) (by rfl) (by rfl) (by rfl)) (by rfl) (by rfl) (by rfl) ?_
  refine wot_o rfl (by exact opt_fieldAddr_pt (by rfl) (by rfl) (by rfl) (by rfl)) (by rfl) (by rfl) (by rfl) ?_
  refine wot_o rfl (by exact opt_fieldAddr_pt (by rfl) (by rfl) (by rfl) (by rfl)) (by rfl) (by rfl) (by rfl) ?_
  refine wot_o rfl (by exact opt_load_pt_1 (by rfl) (by rfl) (by rfl) (by rfl)) (by rfl) (by rfl) (by rfl) ?_
  refine wot_o rfl (opt_move (by rfl) (by rfl)) (by rfl) (by rfl) (by rfl) ?_
  refine wot_o rfl (opt_move (by rfl) (by rfl)) (by rfl) (by rfl) (by rfl) ?_
  refine wot_o rfl (opt_move (by rfl) (by rfl)) (by rfl) (by rfl) (by rfl) ?_
  refine wot_o (x := Enc.tv (⟨(nb : Int), rg, 1 + ((v % 3 : Nat) : Int)⟩ : Loop)) rfl (opt_as (opt_build (by rfl) (by rfl) (by rfl) (by rfl)) (by rfl)) (by rfl) (by rfl) (by rfl) ?_
  refine wot_o rfl (opt_lit_l ([(⟨(nb : Int), rg, 1 + ((v % 3 : Nat) : Int)⟩ : Loop)]) (by rfl) (by rfl) (by rfl) (by rfl) (by rfl) (by rfl) (by rfl) (by rfl) (by rfl) (by rfl)) (by rfl) (by rfl) (by rfl) ?_
  refine wot_of rfl (by exact opt_append_l (by rfl) (by rfl) (by rfl) (by rfl) src_lst (by rfl) (by rfl) (by rfl) (by (simp only [List.length_append, List.length_cons, List.length_nil, List.length_take, List.length_drop]; omega)) (by rfl)) (allD_ok hXF _) (by rfl) (by rfl) (by rfl) ?_
  refine wot_o rfl (by exact opt_nilCheck_pt (by rfl) (by rfl) (by rfl) (by rfl)) (by rfl) (by rfl) (by rfl) ?_
  refine wot_o rfl (by exact opt_fieldAddr_pt (by rfl) (by rfl) (by rfl) (by rfl)) (by rfl) (by rfl) (by rfl) ?_
  refine wot_o rfl (by exact opt_fieldAddr_pt (by rfl) (by rfl) (by rfl) (by rfl)) (by rfl) (by rfl) (by rfl) ?_
  refine wot_of0 rfl (by exact opt_store (by rfl) (by rfl) (by rfl) (by rfl) (by rfl) (by trivial) (by rfl) (by rfl) (by rfl)) (allD_ok hXF _) (by rfl) (by rfl) ?_
  refine wot_nil ?_
  refine wct_ghost (E' := [(0, .pt 1 0 0), (2, ti rg), (3, ti (1 + ((v % 3 : Nat) : Int))), (4, ti (nb : Int))]) (Th' := mR Z0 L (s4.addL ⟨(nb : Int), rg, 1 + ((v % 3 : Nat) : Int)⟩)) (fun T G p h => ⟨p, Rl.sub (F := [(0, .pt 1 0 0), (2, ti rg), (3, ti (1 + ((v % 3 : Nat) : Int))), (4, ti (nb : Int))]) (show Rl X _ (mR Z0 L (s4.addL ⟨(nb : Int), rg, 1 + ((v % 3 : Nat) : Int)⟩)) T G p from h) (by exact ⟨rfl, rfl, rfl, rfl, trivial⟩)⟩) ?_
  obtain ⟨s5, es5, h5⟩ : ∃ q, q = s4.addL ⟨(nb : Int), rg, 1 + ((v % 3 : Nat) : Int)⟩ ∧ St q (A + 3) (nb + 3) nb (nl + 1) (rg + 2) := ⟨_, rfl, h4.addL⟩
  rw [← es5]
  have ls5 := h5.nb
  refine wct_region_seq (by simp) ?_
  refine wot_o rfl (opt_move (by rfl) (by rfl)) (by rfl) (by rfl) (by rfl) ?_
  refine wot_ci hTb rfl (call_bin (by rfl) (by rfl)) (im39z (h5.le (B := A + 120) (by omega)) hA) (fun _ _ _ h => h.2) (allD_ok hXF _) (by rfl) (by rfl) (by rfl) ?_
  rintro r Th' ⟨⟨rfl, rfl⟩, _⟩
  refine wot_nil ?_
  obtain ⟨s6, es6, h6⟩ : ∃ q, q = s5.addB ∧ St q (A + 4) (nb + 3) (nb + 1) (nl + 1) (rg + 2) := ⟨_, rfl, h5.addB (by omega)⟩
  rw [← es6]
  have ls6 := h6.nb
  refine wct_ghost (E' := [(0, .pt 1 0 0), (2, ti rg), (3, ti (1 + ((v % 3 : Nat) : Int))), (4, ti (nb : Int))]) (Th' := mR Z0 L s6) (fun T G p h => ⟨p, Rl.sub (F := [(0, .pt 1 0 0), (2, ti rg), (3, ti (1 + ((v % 3 : Nat) : Int))), (4, ti (nb : Int))]) (show Rl X _ (mR Z0 L s6) T G p from h) (by exact ⟨rfl, rfl, rfl, rfl, trivial⟩)⟩) ?_
  refine wct_region_seq (by simp) ?_
  refine wot_o rfl (opt_move (by rfl) (by rfl)) (by rfl) (by rfl) (by rfl) ?_
  refine wot_o rfl (opt_move (by rfl) (by rfl)) (by rfl) (by rfl) (by rfl) ?_
  refine wot_o rfl (opt_add (by rfl) (by rfl) (by rfl) (by rfl) (by constructor <;> omega)) (by rfl) (by rfl) (by rfl) ?_
  refine wot_c hTb rfl (call_bin (by rfl) (by rfl)) (by refine Drs.cons (by exact Dr.cl (by exact Cl.v _)) ?_; exact Drs.nil) (pu74) (by exact Enc.cl _) (by rfl) (by rfl) (by rfl) ?_
  refine wot_o rfl (opt_move (by rfl) (by rfl)) (by rfl) (by rfl) (by rfl) ?_
  refine wot_c hTb rfl (call_bin (by rfl) (by rfl)) (by refine Drs.cons (by exact Dr.cl (by exact Cl.v _)) ?_; exact Drs.nil) (pu74) (by exact Enc.cl _) (by rfl) (by rfl) (by rfl) ?_
  refine wot_o rfl (opt_move (by rfl) (by rfl)) (by rfl) (by rfl) (by rfl) ?_
  refine wot_o rfl (opt_conv (by rfl) (by rfl) (conv321 _) (by rfl) (by rfl)) (by rfl) (by rfl) (by rfl) ?_
  refine wot_c hTb rfl (call_bin (by rfl) (by rfl)) (by refine Drs.cons (by exact Dr.cl (by exact Cl.v _)) ?_; exact Drs.nil) (pu75) (by exact Enc.cl _) (by rfl) (by rfl) (by rfl) ?_
  refine wot_o (x := Enc.tv (⟨3, 26, 0, rO (rg + 1), rO rg, kO (IntKind.i32.wrap (1 + ((v % 3 : Nat) : Int))), zO⟩ : Inst)) rfl (opt_as (opt_build (by rfl) (by rfl) (by rfl) (by rfl)) (by rfl)) (by rfl) (by rfl) (by rfl) ?_
  refine wot_ci hTb rfl (call_bin (by rfl) (by rfl)) (im76z ((h6.le (B := A + 120) (by omega))) hA hL (by omega)) (fun _ _ _ h => h.2) (allD_ok hXF _) (by rfl) (by rfl) (by rfl) ?_
  rintro r Th' ⟨⟨rfl, rfl⟩, _⟩
  refine wot_nil ?_
  obtain ⟨s7, es7, h7⟩ : ∃ q, q = s6.put ⟨3, 26, 0, rO (rg + 1), rO rg, kO (IntKind.i32.wrap (1 + ((v % 3 : Nat) : Int))), zO⟩ ∧ St q (A + 5) (nb + 3) (nb + 1) (nl + 1) (rg + 2) := ⟨_, rfl, h6.put (by omega) (.mk' (by exact okN (by omega) (by omega)) (by exact okN (by omega) (by omega)) (by exact okK) (by exact okZ))⟩
  rw [← es7]
  have ls7 := h7.nb
  refine wct_ghost (E' := [(0, .pt 1 0 0), (2, ti rg), (3, ti (1 + ((v % 3 : Nat) : Int))), (4, ti (nb : Int))]) (Th' := mR Z0 L s7) (fun T G p h => ⟨p, Rl.sub (F := [(0, .pt 1 0 0), (2, ti rg), (3, ti (1 + ((v % 3 : Nat) : Int))), (4, ti (nb : Int))]) (show Rl X _ (mR Z0 L s7) T G p from h) (by exact ⟨rfl, rfl, rfl, rfl, trivial⟩)⟩) ?_
  refine wct_draw_seq (by kernel_rfl) (u := [(4, 8)]) (by kernel_rfl) ?_
  refine wtt_o rfl (opt_move (by rfl) (by rfl)) (by rfl) (by rfl) (by rfl) ?_
  refine wtt_o rfl (by exact opt_nilCheck_pt (by rfl) (by rfl) (by rfl) (by rfl)) (by rfl) (by rfl) (by rfl) ?_
  refine wtt_o rfl (by exact opt_fieldAddr_pt (by rfl) (by rfl) (by rfl) (by rfl)) (by rfl) (by rfl) (by rfl) ?_
  refine wtt_o rfl (by exact opt_fieldAddr_pt (by rfl) (by rfl) (by rfl) (by rfl)) (by rfl) (by rfl) (by rfl) ?_
  refine wtt_o rfl (by exact opt_load_pt_1 (by rfl) (by rfl) (by rfl) (by rfl)) (by rfl) (by rfl) (by rfl) ?_
  refine wtt_o rfl (opt_move (by rfl) (by rfl)) (by rfl) (by rfl) (by rfl) ?_
  refine wtt_o rfl (opt_move (by rfl) (by rfl)) (by rfl) (by rfl) (by rfl) ?_
  refine wtt_o rfl (opt_add (by rfl) (by rfl) (by rfl) (by rfl) (by constructor <;> omega)) (by rfl) (by rfl) (by rfl) ?_
  refine wtt_c hTb rfl (call_bin (by rfl) (by rfl)) (by refine Drs.cons (by exact Dr.cl (by exact Cl.v _)) ?_; exact Drs.nil) (pu74) (by exact Enc.cl _) (by rfl) (by rfl) (by rfl) ?_
  refine wtt_o rfl (opt_move (by rfl) (by rfl)) (by rfl) (by rfl) (by rfl) ?_
  refine wtt_o rfl (opt_add (by rfl) (by rfl) (by rfl) (by rfl) (by constructor <;> omega)) (by rfl) (by rfl) (by rfl) ?_
  refine wtt_o rfl (opt_move (by rfl) (by rfl)) (by rfl) (by rfl) (by rfl) ?_
  refine wtt_o rfl (opt_add (by rfl) (by rfl) (by rfl) (by rfl) (by constructor <;> omega)) (by rfl) (by rfl) (by rfl) ?_
  refine wtt_o rfl (opt_build (by rfl) (by rfl) (by rfl) (by rfl)) (by rfl) (by rfl) (by rfl) ?_
  refine wtt_o (x := Enc.tv (⟨2, 0, zO, rO (rg + 1), zO, (nb : Int) + 1, (nb : Int) + 2⟩ : Term)) rfl (opt_as (opt_build (by rfl) (by rfl) (by rfl) (by rfl)) (by rfl)) (by rfl) (by rfl) (by rfl) ?_
  refine wtt_o rfl (by exact opt_index_lN (by rfl) (by rfl) (by rfl) (by rfl) (by rfl) (by omega)) (by rfl) (by rfl) (by rfl) ?_
  refine wtt_o rfl (opt_fieldAddr_pt (by rfl) (by rfl) (by rfl) (mR_cs (by omega))) (by rfl) (by rfl) (by rfl) ?_
  refine wtt_of0 rfl (opt_setT0 (by rfl) (by rfl) (by rfl) (by rfl) (by rfl) (by omega)) (allD_ok hXF _) (by rfl) (by rfl) ?_
  refine wtt_nil ?_
  refine ⟨⟨(by exact chk_pt (t := 32) (by rfl) (by rfl) (by rfl) (by rfl) (by rfl) (by rfl) (by rfl) (by rfl) (by rfl)), trivial⟩, ?_⟩
  obtain ⟨s8, es8, h8⟩ : ∃ q, q = s7.setT nb ⟨2, 0, zO, rO (rg + 1), zO, (nb : Int) + 1, (nb : Int) + 2⟩ ∧ St q (A + 5) (nb + 3) (nb + 1) (nl + 1) (rg + 2) := ⟨_, rfl, h7.setT (by omega) (.mk' (by exact okZ) (by exact okN (by omega) (by omega)) (by exact okZ) (by dsimp only; omega) (by dsimp only; omega))⟩
  rw [← es8]
  have ls8 := h8.nb
  refine wct_ghost (E' := [(0, .pt 1 0 0), (2, ti rg), (3, ti (1 + ((v % 3 : Nat) : Int))), (4, ti (nb : Int))]) (Th' := mR Z0 L s8) (fun T G p h => ⟨p, Rl.sub (F := [(0, .pt 1 0 0), (2, ti rg), (3, ti (1 + ((v % 3 : Nat) : Int))), (4, ti (nb : Int))]) (show Rl X _ (mR Z0 L s8) T G p from h) (by exact ⟨rfl, rfl, rfl, rfl, trivial⟩)⟩) ?_
  refine wct_region_seq (by simp) ?_
  refine wot_o rfl (opt_move (by rfl) (by rfl)) (by rfl) (by rfl) (by rfl) ?_
  refine wot_ci hTb rfl (call_bin (by rfl) (by rfl)) (im39z (h8.le (B := A + 120) (by omega)) hA) (fun _ _ _ h => h.2) (allD_ok hXF _) (by rfl) (by rfl) (by rfl) ?_
  rintro r Th' ⟨⟨rfl, rfl⟩, _⟩
  refine wot_nil ?_
  obtain ⟨s9, es9, h9⟩ : ∃ q, q = s8.addB ∧ St q (A + 6) (nb + 3) (nb + 2) (nl + 1) (rg + 2) := ⟨_, rfl, h8.addB (by omega)⟩
  rw [← es9]
  have ls9 := h9.nb
  refine wct_ghost (E' := [(0, .pt 1 0 0), (2, ti rg), (3, ti (1 + ((v % 3 : Nat) : Int))), (4, ti (nb : Int))]) (Th' := mR Z0 L s9) (fun T G p h => ⟨p, Rl.sub (F := [(0, .pt 1 0 0), (2, ti rg), (3, ti (1 + ((v % 3 : Nat) : Int))), (4, ti (nb : Int))]) (show Rl X _ (mR Z0 L s9) T G p from h) (by exact ⟨rfl, rfl, rfl, rfl, trivial⟩)⟩) ?_
  refine wct_region_seq (by simp) ?_
  refine wot_o rfl (opt_move (by rfl) (by rfl)) (by rfl) (by rfl) (by rfl) ?_
  refine wot_o rfl (opt_move (by rfl) (by rfl)) (by rfl) (by rfl) (by rfl) ?_
  refine wot_c hTb rfl (call_bin (by rfl) (by rfl)) (by refine Drs.cons (by exact Dr.cl (by exact Cl.v _)) ?_; exact Drs.nil) (pu74) (by exact Enc.cl _) (by rfl) (by rfl) (by rfl) ?_
  refine wot_o rfl (opt_move (by rfl) (by rfl)) (by rfl) (by rfl) (by rfl) ?_
  refine wot_c hTb rfl (call_bin (by rfl) (by rfl)) (by refine Drs.cons (by exact Dr.cl (by exact Cl.v _)) ?_; exact Drs.nil) (pu74) (by exact Enc.cl _) (by rfl) (by rfl) (by rfl) ?_
  refine wot_c hTb rfl (call_bin (by rfl) (by rfl)) (by refine Drs.cons (by exact Dr.cl (by exact Cl.v _)) ?_; exact Drs.nil) (pu75) (by exact Enc.cl _) (by rfl) (by rfl) (by rfl) ?_
  refine wot_o (x := Enc.tv (⟨3, 10, 0, rO rg, rO rg, kO 1, zO⟩ : Inst)) rfl (opt_as (opt_build (by rfl) (by rfl) (by rfl) (by rfl)) (by rfl)) (by rfl) (by rfl) (by rfl) ?_
  refine wot_ci hTb rfl (call_bin (by rfl) (by rfl)) (im76z ((h9.le (B := A + 120) (by omega))) hA hL (by omega)) (fun _ _ _ h => h.2) (allD_ok hXF _) (by rfl) (by rfl) (by rfl) ?_
  rintro r Th' ⟨⟨rfl, rfl⟩, _⟩
  refine wot_nil ?_
  obtain ⟨sa, esa, ha⟩ : ∃ q, q = s9.put ⟨3, 10, 0, rO rg, rO rg, kO 1, zO⟩ ∧ St q (A + 7) (nb + 3) (nb + 2) (nl + 1) (rg + 2) := ⟨_, rfl, h9.put (by omega) (.mk' (by exact okN (by omega) (by omega)) (by exact okN (by omega) (by omega)) (by exact okK) (by exact okZ))⟩
  rw [← esa]
  have lsa := ha.nb
  refine wct_ghost (E' := [(0, .pt 1 0 0), (2, ti rg), (3, ti (1 + ((v % 3 : Nat) : Int))), (4, ti (nb : Int))]) (Th' := mR Z0 L sa) (fun T G p h => ⟨p, Rl.sub (F := [(0, .pt 1 0 0), (2, ti rg), (3, ti (1 + ((v % 3 : Nat) : Int))), (4, ti (nb : Int))]) (show Rl X _ (mR Z0 L sa) T G p from h) (by exact ⟨rfl, rfl, rfl, rfl, trivial⟩)⟩) ?_
  refine wct_region_seq (by simp) ?_
  refine wot_o rfl (opt_move (by rfl) (by rfl)) (by rfl) (by rfl) (by rfl) ?_
  refine wot_ci hTb rfl (call_bin (by rfl) (by rfl)) (im42z (ha.le (B := A + 120) (by omega)) hA hL (by omega)) (fun _ _ _ h => h.2) (allD_ok hXF _) (by rfl) (by rfl) (by rfl) ?_
  rintro r Th' ⟨⟨sb, rfl, hq⟩, _⟩
  refine wot_nil ?_
  have hb := ha.stp hq
  have lsb := hb.nb
  clear hq es1 h1 ls1 es2 h2 ls2 es3 h3 ls3 es4 h4 ls4 es5 h5 ls5 es6 h6 ls6 es7 h7 ls7 es8 h8 ls8 es9 h9 ls9 esa ha lsa hll
  refine wct_ghost (E' := [(0, .pt 1 0 0), (2, ti rg), (3, ti (1 + ((v % 3 : Nat) : Int))), (4, ti (nb : Int))]) (Th' := mR Z0 L sb) (fun T G p h => ⟨p, Rl.sub (F := [(0, .pt 1 0 0), (2, ti rg), (3, ti (1 + ((v % 3 : Nat) : Int))), (4, ti (nb : Int))]) (show Rl X _ (mR Z0 L sb) T G p from h) (by exact ⟨rfl, rfl, rfl, rfl, trivial⟩)⟩) ?_
  refine wct_region_seq (by simp) ?_
  refine wot_o rfl (opt_move (by rfl) (by rfl)) (by rfl) (by rfl) (by rfl) ?_
  refine wot_o rfl (by exact opt_nilCheck_pt (by rfl) (by rfl) (by rfl) (by rfl)) (by rfl) (by rfl) (by rfl) ?_
  refine wot_o rfl (by exact opt_fieldAddr_pt (by rfl) (by rfl) (by rfl) (by rfl)) (by rfl) (by rfl) (by rfl) ?_
  refine wot_o rfl (by exact opt_fieldAddr_pt (by rfl) (by rfl) (by rfl) (by rfl)) (by rfl) (by rfl) (by rfl) ?_
  refine wot_o rfl (by exact opt_load_pt_1 (by rfl) (by rfl) (by rfl) (by rfl)) (by rfl) (by rfl) (by rfl) ?_
  refine wot_o rfl (opt_move (by rfl) (by rfl)) (by rfl) (by rfl) (by rfl) ?_
  refine wot_o rfl (opt_addNC (b := 1) (by rfl) (by rfl) (by rfl) (by rfl) (by rfl) (by omega)) (by rfl) (by rfl) (by rfl) ?_
  refine wot_o rfl (opt_move (by rfl) (by rfl)) (by rfl) (by rfl) (by rfl) ?_
  refine wot_o rfl (opt_build (by rfl) (by rfl) (by rfl) (by rfl)) (by rfl) (by rfl) (by rfl) ?_
  refine wot_o (x := Enc.tv (⟨1, 0, zO, zO, zO, (nb : Int), 0⟩ : Term)) rfl (opt_as (opt_build (by rfl) (by rfl) (by rfl) (by rfl)) (by rfl)) (by rfl) (by rfl) (by rfl) ?_
  refine wot_o rfl (by exact opt_index_lN (by rfl) (by rfl) (by rfl) (by rfl) (by rfl) (by omega)) (by rfl) (by rfl) (by rfl) ?_
  refine wot_o rfl (opt_fieldAddr_pt (by rfl) (by rfl) (by rfl) (mR_cs (by omega))) (by rfl) (by rfl) (by rfl) ?_
  refine wot_of0 rfl (opt_setT0 (by rfl) (by rfl) (by rfl) (by rfl) (by rfl) (by omega)) (allD_ok hXF _) (by rfl) (by rfl) ?_
  refine wot_nil ?_
  obtain ⟨sc, esc, hc⟩ : ∃ q, q = sb.setT (nb + 1) ⟨1, 0, zO, zO, zO, (nb : Int), 0⟩ ∧ St q (A + 7 + 81) (nb + 3) (nb + 2) (nl + 1) (rg + 2) := ⟨_, rfl, hb.setT (by omega) (.mk' (by exact okZ) (by exact okZ) (by exact okZ) (by dsimp only; omega) (by dsimp only; omega))⟩
  rw [← esc]
  have lsc := hc.nb
  refine wct_ghost (E' := [(0, .pt 1 0 0), (2, ti rg), (3, ti (1 + ((v % 3 : Nat) : Int))), (4, ti (nb : Int))]) (Th' := mR Z0 L sc) (fun T G p h => ⟨p, Rl.sub (F := [(0, .pt 1 0 0), (2, ti rg), (3, ti (1 + ((v % 3 : Nat) : Int))), (4, ti (nb : Int))]) (show Rl X _ (mR Z0 L sc) T G p from h) (by exact ⟨rfl, rfl, rfl, rfl, trivial⟩)⟩) ?_
  refine wct_region_seq (by simp) ?_
  refine wot_o rfl (opt_move (by rfl) (by rfl)) (by rfl) (by rfl) (by rfl) ?_
  refine wot_ci hTb rfl (call_bin (by rfl) (by rfl)) (im35z ((hc.le (B := A + 120) (by omega))) hA hL) (fun _ _ _ h => h.2) (allD_ok hXF _) (by rfl) (by rfl) (by rfl) ?_
  rintro r Th' ⟨⟨⟨v2, rfl, hv2⟩, rfl⟩, _⟩
  refine wot_o rfl (by exact opt_remNC (by rfl) (by rfl) (by rfl) (by rfl)) (by rfl) (by rfl) (by rfl) ?_
  refine wot_o rfl (opt_cmp (by rfl) (by rfl) (by rfl) (by rfl) (by rfl)) (by rfl) (by rfl) (by rfl) ?_
  refine wot_nil ?_
  obtain ⟨sd, esd, hd⟩ : ∃ q, q = sc.adv ∧ St q (A + 7 + 81 + 1) (nb + 3) (nb + 2) (nl + 1) (rg + 2) := ⟨_, rfl, hc.adv⟩
  rw [← esd]
  have lsd := hd.nb
  refine wct_if (by rfl) (by rfl) (fun c1 => ?_) (fun c1 => ?_)
  · (skip)
    try simp only [Int.toNat_natCast] at c1
    have hde : sd.adv.bs.length = nb + 2 := lsd
    refine wct_draw (by kernel_rfl) (u := [(4, 8)]) (by kernel_rfl) ?_
    refine wtt_o rfl (opt_move (by rfl) (by rfl)) (by rfl) (by rfl) (by rfl) ?_
    refine wtt_o rfl (by exact opt_nilCheck_pt (by rfl) (by rfl) (by rfl) (by rfl)) (by rfl) (by rfl) (by rfl) ?_
    refine wtt_o rfl (by exact opt_fieldAddr_pt (by rfl) (by rfl) (by rfl) (by rfl)) (by rfl) (by rfl) (by rfl) ?_
    refine wtt_o rfl (by exact opt_fieldAddr_pt (by rfl) (by rfl) (by rfl) (by rfl)) (by rfl) (by rfl) (by rfl) ?_
    refine wtt_o rfl (by exact opt_load_pt_1 (by rfl) (by rfl) (by rfl) (by rfl)) (by rfl) (by rfl) (by rfl) ?_
    refine wtt_o rfl (opt_move (by rfl) (by rfl)) (by rfl) (by rfl) (by rfl) ?_
    refine wtt_o rfl (opt_addNC (b := 1) (by rfl) (by rfl) (by rfl) (by rfl) (by rfl) (by omega)) (by rfl) (by rfl) (by rfl) ?_
    refine wtt_o rfl (opt_move (by rfl) (by rfl)) (by rfl) (by rfl) (by rfl) ?_
    refine wtt_ci hTb rfl (call_bin (by rfl) (by rfl)) (im40z ((hd.le (B := A + 120) (by omega))) hA hL) (fun _ _ _ h => h.2) (allD_ok hXF _) (by rfl) (by rfl) (by rfl) ?_
    rintro r Th' ⟨⟨⟨w, rfl, hw⟩, ⟨gar, rfl⟩⟩, _⟩
    refine wtt_o rfl (opt_move (by rfl) (by rfl)) (by rfl) (by rfl) (by rfl) ?_
    refine wtt_o rfl (opt_move (by rfl) (by rfl)) (by rfl) (by rfl) (by rfl) ?_
    refine wtt_o rfl (opt_add (by rfl) (by rfl) (by rfl) (by rfl) (by constructor <;> omega)) (by rfl) (by rfl) (by rfl) ?_
    refine wtt_o rfl (opt_build (by rfl) (by rfl) (by rfl) (by rfl)) (by rfl) (by rfl) (by rfl) ?_
    refine wtt_o (x := Enc.tv (⟨2, 0, zO, rO w, zO, (nb : Int), (nb : Int) + 2⟩ : Term)) rfl (opt_as (opt_build (by rfl) (by rfl) (by rfl) (by rfl)) (by rfl)) (by rfl) (by rfl) (by rfl) ?_
    refine wtt_o rfl (opt_index_lN (by rfl) (by rfl) (by rfl) (by rfl) (by rfl) (by show _ < sd.bs.length; omega)) (by rfl) (by rfl) (by rfl) ?_
    refine wtt_o rfl (opt_fieldAddr_pt (by rfl) (by rfl) (by rfl) (mR_cs (by show 0 < sd.bs.length; omega))) (by rfl) (by rfl) (by rfl) ?_
    refine wtt_of0 rfl (opt_setT (by rfl) (by rfl) (by rfl) (by rfl) (by rfl) (by show _ < sd.bs.length; omega)) (allD_ok hXF _) (by rfl) (by rfl) ?_
    refine wtt_nil ?_
    refine ⟨⟨(by exact chk_pt (t := 32) (by rfl) (by rfl) (by rfl) (by rfl) (by rfl) (by rfl) (by rfl) (by rfl) (by rfl)), trivial⟩, ?_⟩
    refine fini_0 (by simp) rfl ?_
    have he := hd.adv.setT (k := (nb + 1)) (t := ⟨2, 0, zO, rO w, zO, (nb : Int), (nb : Int) + 2⟩) (by omega) (.mk' (by exact okZ) (by exact okR (by assumption) (by have := hd.mi.rg; have := hd.rg; omega)) (by exact okZ) (by dsimp only; omega) (by dsimp only; omega))
    exact ⟨_, ⟨_, rfl⟩, he.le (by omega)⟩
  · (refine wct_skip ?_)
    try simp only [Int.toNat_natCast] at c1
    refine fini_0 (by simp) rfl ?_
    exact ⟨sd, ⟨[], (List.append_nil _).symm⟩, hd.le (by omega)⟩
set_option maxHeartbeats 4000000 in
theorem im37 {L : List U8} {s : MS} {A nb nl n : Nat} {rg : Int} (h : St s A (nb + 1) nb nl rg) (hA : A + 400 ≤ 2 ^ 16) (hL : LOk L) (hn : n ≤ 2) : Im Tryd.prog 37 [.pt 1 0 0, ti (n : Int)] (mR Z0 L s) (fun r Th' e => (∃ s', Th' = mR Z0 L s' ∧ St s' (A + 400) (nb + n + 1 : Nat) (nb + n + 1) nl rg) ∧ e = allD (s.bs.length + 4)) := by
  have h := h.lims (l := ((nb + n + 1 : Nat) : Int)) (by omega)
  have hnbA := h.mi.bl
  rw [h.nb] at hnbA
  have hs0 := h.nb
  replace hA : A + 400 ≤ 2 ^ 17 := by omega
  refine im_fn (allD (s.bs.length + 4)) fn37 (by rfl) (by rfl) (by rfl) fun X hX hF hTb => ?_
  have hXF : X.f = allD X.p.length := by rw [hF, hX, mR_len]
  refine wct_region_seq (by simp) ?_
  refine wot_o rfl (opt_move (by rfl) (by rfl)) (by rfl) (by rfl) (by rfl) ?_
  refine wot_ci hTb rfl (call_bin (by rfl) (by rfl)) (im39z (h.le (B := A + 400) (by omega)) hA) (fun _ _ _ h => h.2) (allD_ok hXF _) (by rfl) (by rfl) (by rfl) ?_
  rintro r Th' ⟨⟨rfl, rfl⟩, _⟩
  refine wot_nil ?_
  obtain ⟨s1, es1, h1⟩ : ∃ q, q = s.addB ∧ St q (A + 1) ((nb + n + 1 : Nat) : Int) (nb + 1) nl rg := ⟨_, rfl, h.addB (by omega)⟩
  rw [← es1]
  have ls1 := h1.nb
  refine wct_region_seq (by simp) ?_
  refine wot_o rfl (opt_move (by rfl) (by rfl)) (by rfl) (by rfl) (by rfl) ?_
  refine wot_o rfl (by exact opt_nilCheck_pt (by rfl) (by rfl) (by rfl) (by rfl)) (by rfl) (by rfl) (by rfl) ?_
  refine wot_o rfl (by exact opt_fieldAddr_pt (by rfl) (by rfl) (by rfl) (by rfl)) (by rfl) (by rfl) (by rfl) ?_
  refine wot_o rfl (by exact opt_fieldAddr_pt (by rfl) (by rfl) (by rfl) (by rfl)) (by rfl) (by rfl) (by rfl) ?_
  refine wot_o rfl (by exact opt_load_pt_1 (by rfl) (by rfl) (by rfl) (by rfl)) (by rfl) (by rfl) (by rfl) ?_
  refine wot_o rfl (by exact opt_len_own (by rfl) (by rfl) (by rfl) (by rfl)) (by rfl) (by rfl) (by rfl) ?_
  refine wot_o rfl (opt_sub (by rfl) (by rfl) (by rfl) (by rfl) (by constructor <;> omega)) (by rfl) (by rfl) (by rfl) ?_
  refine wot_o rfl (opt_assign (by rfl) (by rfl)) (by rfl) (by rfl) (by rfl) ?_
  refine wot_nil ?_
  refine wct_ghost (E' := [(0, .pt 1 0 0), (1, ti (n : Int)), (4, ti ((s1.bs.length : Int) - 1))]) (Th' := mR Z0 L s1) (fun T G p h => ⟨p, Rl.sub (F := [(0, .pt 1 0 0), (1, ti (n : Int)), (4, ti ((s1.bs.length : Int) - 1))]) (show Rl X _ (mR Z0 L s1) T G p from h) (by exact ⟨rfl, rfl, rfl, trivial⟩)⟩) ?_
  rw [ls1, show ((nb + 1 : Nat) : Int) - 1 = (nb : Int) by omega]
  refine wct_region_seq (by simp) ?_
  refine wot_o rfl (opt_move (by rfl) (by rfl)) (by rfl) (by rfl) (by rfl) ?_
  refine wot_o rfl (opt_move (by rfl) (by rfl)) (by rfl) (by rfl) (by rfl) ?_
  refine wot_o rfl (opt_add (by rfl) (by rfl) (by rfl) (by rfl) (by constructor <;> omega)) (by rfl) (by rfl) (by rfl) ?_
  refine wot_o rfl (opt_assign (by rfl) (by rfl)) (by rfl) (by rfl) (by rfl) ?_
  refine wot_nil ?_
  (refine wct_assoc ?_)
  refine wct_ghost (E' := [(0, .pt 1 0 0), (4, ti (nb : Int)), (5, ti ((nb : Int) + (n : Int)))]) (Th' := mR Z0 L s1) (fun T G p h => ⟨p, Rl.sub (F := [(0, .pt 1 0 0), (4, ti (nb : Int)), (5, ti ((nb : Int) + (n : Int)))]) (show Rl X _ (mR Z0 L s1) T G p from h) (by exact ⟨rfl, rfl, rfl, trivial⟩)⟩) ?_
  refine wct_region_seq (by simp) ?_
  refine wot_o rfl (opt_move (by rfl) (by rfl)) (by rfl) (by rfl) (by rfl) ?_
  refine wot_o rfl (opt_assign (by rfl) (by rfl)) (by rfl) (by rfl) (by rfl) ?_
  refine wot_nil ?_
  refine wct_loop2 (fun (b : Nat) (t : MS) => nb ≤ b ∧ b ≤ nb + n ∧ St t (A + 1 + 90 * (b - nb)) ((nb + n + 1 : Nat) : Int) (b + 1) nl rg) (fun (b : Nat) (t : MS) => [(0, .pt 1 0 0), (5, ti ((nb : Int) + (n : Int))), (6, ti (b : Int))]) (fun (b : Nat) (t : MS) => mR Z0 L t) (fun (b : Nat) (t : MS) => nb + n - b) nb s1 (by exact ⟨rfl, rfl, rfl, trivial⟩) (by rfl) ?_ ?_
  · exact ⟨Nat.le_refl _, by omega, h1.le (by omega)⟩
  rintro b t ⟨hb1, hb2, ht⟩
  (refine wct_assoc ?_)
  refine wct_region_seq (by simp) ?_
  refine wot_o rfl (opt_move (by rfl) (by rfl)) (by rfl) (by rfl) (by rfl) ?_
  refine wot_o rfl (opt_move (by rfl) (by rfl)) (by rfl) (by rfl) (by rfl) ?_
  refine wot_o rfl (opt_cmp (by rfl) (by rfl) (by rfl) (by rfl) (by rfl)) (by rfl) (by rfl) (by rfl) ?_
  refine wot_nil ?_
  refine wct_if_seq (by rfl) (by rfl) (fun c1 => ?_) (fun c1 => ?_)
  · (refine wct_skip_seq ?_; refine wct_block_sq ?_)
    try simp only [Int.toNat_natCast] at c1
    refine wct_region_seq (by simp) ?_
    refine wot_o rfl (opt_move (by rfl) (by rfl)) (by rfl) (by rfl) (by rfl) ?_
    refine wot_ci hTb rfl (call_bin (by rfl) (by rfl)) (im42z (ht.le (B := A + 400) (by omega)) hA hL (by omega)) (fun _ _ _ h => h.2) (allD_ok hXF _) (by rfl) (by rfl) (by rfl) ?_
    rintro r Th' ⟨⟨t2, rfl, hq⟩, _⟩
    refine wot_nil ?_
    have h2 := ht.stp hq
    have lt2 := h2.nb
    refine wct_region_seq (by simp) ?_
    refine wot_o rfl (opt_move (by rfl) (by rfl)) (by rfl) (by rfl) (by rfl) ?_
    refine wot_o rfl (by exact opt_nilCheck_pt (by rfl) (by rfl) (by rfl) (by rfl)) (by rfl) (by rfl) (by rfl) ?_
    refine wot_o rfl (by exact opt_fieldAddr_pt (by rfl) (by rfl) (by rfl) (by rfl)) (by rfl) (by rfl) (by rfl) ?_
    refine wot_o rfl (by exact opt_fieldAddr_pt (by rfl) (by rfl) (by rfl) (by rfl)) (by rfl) (by rfl) (by rfl) ?_
    refine wot_o rfl (by exact opt_load_pt_1 (by rfl) (by rfl) (by rfl) (by rfl)) (by rfl) (by rfl) (by rfl) ?_
    refine wot_o rfl (opt_move (by rfl) (by rfl)) (by rfl) (by rfl) (by rfl) ?_
    refine wot_o rfl (opt_move (by rfl) (by rfl)) (by rfl) (by rfl) (by rfl) ?_
    refine wot_o rfl (opt_add (by rfl) (by rfl) (by rfl) (by rfl) (by constructor <;> omega)) (by rfl) (by rfl) (by rfl) ?_
    refine wot_o rfl (opt_build (by rfl) (by rfl) (by rfl) (by rfl)) (by rfl) (by rfl) (by rfl) ?_
    refine wot_o (x := Enc.tv (⟨1, 0, zO, zO, zO, (b : Int) + 1, 0⟩ : Term)) rfl (opt_as (opt_build (by rfl) (by rfl) (by rfl) (by rfl)) (by rfl)) (by rfl) (by rfl) (by rfl) ?_
    refine wot_o rfl (by exact opt_index_lN (by rfl) (by rfl) (by rfl) (by rfl) (by rfl) (by omega)) (by rfl) (by rfl) (by rfl) ?_
    refine wot_o rfl (opt_fieldAddr_pt (by rfl) (by rfl) (by rfl) (mR_cs (by omega))) (by rfl) (by rfl) (by rfl) ?_
    refine wot_of0 rfl (opt_setT0 (by rfl) (by rfl) (by rfl) (by rfl) (by rfl) (by omega)) (allD_ok hXF _) (by rfl) (by rfl) ?_
    refine wot_nil ?_
    (refine wct_assoc ?_)
    obtain ⟨t3, et3, h3⟩ : ∃ q, q = t2.setT b ⟨1, 0, zO, zO, zO, (b : Int) + 1, 0⟩ ∧ St q (A + 1 + 90 * (b - nb) + 81) ((nb + n + 1 : Nat) : Int) (b + 1) nl rg := ⟨_, rfl, h2.setT (by omega) (.mk' (by exact okZ) (by exact okZ) (by exact okZ) (by dsimp only; omega) (by dsimp only; omega))⟩
    rw [← et3]
    have lt3 := h3.nb
    refine wct_region_seq (by simp) ?_
    refine wot_o rfl (opt_move (by rfl) (by rfl)) (by rfl) (by rfl) (by rfl) ?_
    refine wot_ci hTb rfl (call_bin (by rfl) (by rfl)) (im35z (h3.le (B := A + 400) (by omega)) hA hL) (fun _ _ _ h => h.2) (allD_ok hXF _) (by rfl) (by rfl) (by rfl) ?_
    rintro r Th' ⟨⟨⟨v, rfl, hv⟩, rfl⟩, _⟩
    refine wot_o rfl (by exact opt_remNC (by rfl) (by rfl) (by rfl) (by rfl)) (by rfl) (by rfl) (by rfl) ?_
    refine wot_o rfl (opt_cmp (by rfl) (by rfl) (by rfl) (by rfl) (by rfl)) (by rfl) (by rfl) (by rfl) ?_
    refine wot_nil ?_
    obtain ⟨t4, et4, h4⟩ : ∃ q, q = t3.adv ∧ St q (A + 1 + 90 * (b - nb) + 82) ((nb + n + 1 : Nat) : Int) (b + 1) nl rg := ⟨_, rfl, h3.adv⟩
    rw [← et4]
    have lt4 := h4.nb
    refine wct_if_seq (by rfl) (by rfl) (fun c2 => ?_) (fun c2 => ?_)
    · (skip)
      try simp only [Int.toNat_natCast] at c2
      have hpos := h4.mi.pos
      refine wct_draw_seq (by kernel_rfl) (u := [(4, 7), (4, 11), (4, 20)]) (by kernel_rfl) ?_
      refine wtt_o rfl (opt_move (by rfl) (by rfl)) (by rfl) (by rfl) (by rfl) ?_
      refine wtt_o rfl (by exact opt_nilCheck_pt (by rfl) (by rfl) (by rfl) (by rfl)) (by rfl) (by rfl) (by rfl) ?_
      refine wtt_o rfl (by exact opt_fieldAddr_pt (by rfl) (by rfl) (by rfl) (by rfl)) (by rfl) (by rfl) (by rfl) ?_
      refine wtt_o rfl (by exact opt_fieldAddr_pt (by rfl) (by rfl) (by rfl) (by rfl)) (by rfl) (by rfl) (by rfl) ?_
      refine wtt_o rfl (by exact opt_load_pt_1 (by rfl) (by rfl) (by rfl) (by rfl)) (by rfl) (by rfl) (by rfl) ?_
      refine wtt_o rfl (opt_move (by rfl) (by rfl)) (by rfl) (by rfl) (by rfl) ?_
      refine wtt_o rfl (opt_move (by rfl) (by rfl)) (by rfl) (by rfl) (by rfl) ?_
      refine wtt_ci hTb rfl (call_bin (by rfl) (by rfl)) (im40z ((h4.le (B := A + 400) (by omega))) hA hL) (fun _ _ _ h => h.2) (allD_ok hXF _) (by rfl) (by rfl) (by rfl) ?_
      rintro r Th' ⟨⟨⟨w, rfl, hw⟩, ⟨gar, rfl⟩⟩, _⟩
      refine wtt_o rfl (opt_move (by rfl) (by rfl)) (by rfl) (by rfl) (by rfl) ?_
      refine wtt_o rfl (opt_add (by rfl) (by rfl) (by rfl) (by rfl) (by constructor <;> omega)) (by rfl) (by rfl) (by rfl) ?_
      refine wtt_o rfl (opt_move (by rfl) (by rfl)) (by rfl) (by rfl) (by rfl) ?_
      refine wtt_ci hTb rfl (call_bin (by rfl) (by rfl)) (im35 (by show t4.pos + 1 ≤ _; omega) hL) (fun _ _ _ h => h.2) (allD_ok hXF _) (by rfl) (by rfl) (by rfl) ?_
      rintro r Th' ⟨⟨⟨v1, rfl, hv1⟩, rfl⟩, _⟩
      refine wtt_o rfl (opt_move (by rfl) (by rfl)) (by rfl) (by rfl) (by rfl) ?_
      refine wtt_o rfl (opt_move (by rfl) (by rfl)) (by rfl) (by rfl) (by rfl) ?_
      refine wtt_o rfl (opt_subNN (by rfl) (by rfl) (by rfl) (by rfl) (by omega) (by omega)) (by rfl) (by rfl) (by rfl) ?_
      refine wtt_o rfl (opt_remNN (by rfl) (by rfl) (by rfl) (by rfl) (by omega)) (by rfl) (by rfl) (by rfl) ?_
      refine wtt_o rfl (opt_add (by rfl) (by rfl) (by rfl) (by rfl) (by have := Nat.mod_le v1 (nb + n - b); constructor <;> omega)) (by rfl) (by rfl) (by rfl) ?_
      refine wtt_o rfl (opt_move (by rfl) (by rfl)) (by rfl) (by rfl) (by rfl) ?_
      refine wtt_o rfl (opt_add (by rfl) (by rfl) (by rfl) (by rfl) (by constructor <;> omega)) (by rfl) (by rfl) (by rfl) ?_
      refine wtt_o rfl (opt_move (by rfl) (by rfl)) (by rfl) (by rfl) (by rfl) ?_
      refine wtt_ci hTb rfl (call_bin (by rfl) (by rfl)) (im35 (by show t4.pos + 1 + 1 ≤ _; omega) hL) (fun _ _ _ h => h.2) (allD_ok hXF _) (by rfl) (by rfl) (by rfl) ?_
      rintro r Th' ⟨⟨⟨v2, rfl, hv2⟩, rfl⟩, _⟩
      refine wtt_o rfl (opt_move (by rfl) (by rfl)) (by rfl) (by rfl) (by rfl) ?_
      refine wtt_o rfl (opt_move (by rfl) (by rfl)) (by rfl) (by rfl) (by rfl) ?_
      refine wtt_o rfl (opt_subNN (by rfl) (by rfl) (by rfl) (by rfl) (by omega) (by omega)) (by rfl) (by rfl) (by rfl) ?_
      refine wtt_o rfl (opt_remNN (by rfl) (by rfl) (by rfl) (by rfl) (by omega)) (by rfl) (by rfl) (by rfl) ?_
      refine wtt_o rfl (opt_add (by rfl) (by rfl) (by rfl) (by rfl) (by have := Nat.mod_le v2 (nb + n - b); constructor <;> omega)) (by rfl) (by rfl) (by rfl) ?_
      refine wtt_o rfl (opt_build (by rfl) (by rfl) (by rfl) (by rfl)) (by rfl) (by rfl) (by rfl) ?_
      refine wtt_o (x := Enc.tv (⟨2, 0, zO, rO w, zO, (b : Int) + 1 + ((v1 % (nb + n - b) : Nat) : Int), (b : Int) + 1 + ((v2 % (nb + n - b) : Nat) : Int)⟩ : Term)) rfl (opt_as (opt_build (by rfl) (by rfl) (by rfl) (by rfl)) (by rfl)) (by rfl) (by rfl) (by rfl) ?_
      refine wtt_o rfl (opt_index_lN (by rfl) (by rfl) (by rfl) (by rfl) (by rfl) (by show _ < t4.bs.length; omega)) (by rfl) (by rfl) (by rfl) ?_
      refine wtt_o rfl (opt_fieldAddr_pt (by rfl) (by rfl) (by rfl) (mR_cs (by show 0 < t4.bs.length; omega))) (by rfl) (by rfl) (by rfl) ?_
      refine wtt_of0 rfl (opt_setT (by rfl) (by rfl) (by rfl) (by rfl) (by rfl) (by show _ < t4.bs.length; omega)) (allD_ok hXF _) (by rfl) (by rfl) ?_
      refine wtt_nil ?_
      refine ⟨⟨(by exact chk_pt (t := 32) (by rfl) (by rfl) (by rfl) (by rfl) (by rfl) (by rfl) (by rfl) (by rfl) (by rfl)), (by exact chk_pt (t := 32) (by rfl) (by rfl) (by rfl) (by rfl) (by rfl) (by rfl) (by rfl) (by rfl) (by rfl)), (by exact chk_pt (t := 32) (by rfl) (by rfl) (by rfl) (by rfl) (by rfl) (by rfl) (by rfl) (by rfl) (by rfl)), trivial⟩, ?_⟩
      have hm1 := Nat.mod_lt v1 (show 0 < nb + n - b by omega)
      have hm2 := Nat.mod_lt v2 (show 0 < nb + n - b by omega)
      have h5 := h4.adv.adv.adv.setT (k := b) (t := ⟨2, 0, zO, rO w, zO, (b : Int) + 1 + ((v1 % (nb + n - b) : Nat) : Int), (b : Int) + 1 + ((v2 % (nb + n - b) : Nat) : Int)⟩) (by omega) (.mk' (by exact okZ) (by exact okR (by assumption) (by have := h4.mi.rg; have := h4.rg; omega)) (by exact okZ) (by dsimp only; omega) (by dsimp only; omega))
      generalize (t4.adv.adv.adv).setT b ⟨2, 0, zO, rO w, zO, (b : Int) + 1 + ((v1 % (nb + n - b) : Nat) : Int), (b : Int) + 1 + ((v2 % (nb + n - b) : Nat) : Int)⟩ = t5 at h5 ⊢
      refine wct_ghost (g_pop (F := [(0, .pt 1 0 0), (5, ti ((nb : Int) + (n : Int))), (6, ti (b : Int))]) (Th1 := mR Z0 L t5) (gar := _) (by rfl) (by rw [hX, mR_len, mR_len, h5.nb, hs0]; omega) (by exact ⟨rfl, rfl, rfl, trivial⟩) (by exact ⟨Lo.pt (by rfl), Lo.cl (Cl.v _), Lo.cl (Cl.v _), trivial⟩) lo_mR) ?_
      refine wct_region (by simp) ?_
      refine wot_o rfl (opt_move (by rfl) (by rfl)) (by rfl) (by rfl) (by rfl) ?_
      refine wot_ci hTb rfl (call_bin (by rfl) (by rfl)) (im39z (h5.le (B := A + 400) (by omega)) hA) (fun _ _ _ h => h.2) (allD_ok hXF _) (by rfl) (by rfl) (by rfl) ?_
      rintro r Th' ⟨⟨rfl, rfl⟩, _⟩
      refine wot_nil ?_
      (refine qbt_normal ?_; refine qst_wct ?_)
      refine wct_region (by simp) ?_
      refine wot_o rfl (opt_move (by rfl) (by rfl)) (by rfl) (by rfl) (by rfl) ?_
      refine wot_o rfl (opt_add (by rfl) (by rfl) (by rfl) (by rfl) (by constructor <;> omega)) (by rfl) (by rfl) (by rfl) ?_
      refine wot_o rfl (opt_assign (by rfl) (by rfl)) (by rfl) (by rfl) (by rfl) ?_
      refine wot_nil ?_
      (refine qst_loop ?_)
      refine rnd (b + 1, t5.addB) (by (try simp only); omega) ?_ (by exact ⟨rfl, rfl, rfl, trivial⟩) (by rfl)
      try dsimp only
      refine ⟨by omega, by omega, ?_⟩
      exact (h5.addB (by omega)).le (by omega)
    · (refine wct_skip_seq ?_)
      try simp only [Int.toNat_natCast] at c2
      have h5 : St t4 (A + 1 + 90 * (b - nb) + 82 + 1 + 1 + 1) ((nb + n + 1 : Nat) : Int) (b + 1) nl rg := h4.le (by omega)
      generalize t4 = t5 at h5 ⊢
      refine wct_ghost (g_pop (F := [(0, .pt 1 0 0), (5, ti ((nb : Int) + (n : Int))), (6, ti (b : Int))]) (Th1 := mR Z0 L t5) (gar := _) (by exact (List.append_nil _).symm) (by rw [hX, mR_len, mR_len, h5.nb, hs0]; omega) (by exact ⟨rfl, rfl, rfl, trivial⟩) (by exact ⟨Lo.pt (by rfl), Lo.cl (Cl.v _), Lo.cl (Cl.v _), trivial⟩) lo_mR) ?_
      refine wct_region (by simp) ?_
      refine wot_o rfl (opt_move (by rfl) (by rfl)) (by rfl) (by rfl) (by rfl) ?_
      refine wot_ci hTb rfl (call_bin (by rfl) (by rfl)) (im39z (h5.le (B := A + 400) (by omega)) hA) (fun _ _ _ h => h.2) (allD_ok hXF _) (by rfl) (by rfl) (by rfl) ?_
      rintro r Th' ⟨⟨rfl, rfl⟩, _⟩
      refine wot_nil ?_
      (refine qbt_normal ?_; refine qst_wct ?_)
      refine wct_region (by simp) ?_
      refine wot_o rfl (opt_move (by rfl) (by rfl)) (by rfl) (by rfl) (by rfl) ?_
      refine wot_o rfl (opt_add (by rfl) (by rfl) (by rfl) (by rfl) (by constructor <;> omega)) (by rfl) (by rfl) (by rfl) ?_
      refine wot_o rfl (opt_assign (by rfl) (by rfl)) (by rfl) (by rfl) (by rfl) ?_
      refine wot_nil ?_
      (refine qst_loop ?_)
      refine rnd (b + 1, t5.addB) (by (try simp only); omega) ?_ (by exact ⟨rfl, rfl, rfl, trivial⟩) (by rfl)
      try dsimp only
      refine ⟨by omega, by omega, ?_⟩
      exact (h5.addB (by omega)).le (by omega)
  · (refine wct_exit_seq ?_; refine qst_exit ?_; refine qbt_same ?_; refine qst_wct ?_)
    try simp only [Int.toNat_natCast] at c1
    refine wct_region (by simp) ?_
    refine wot_o rfl (opt_move (by rfl) (by rfl)) (by rfl) (by rfl) (by rfl) ?_
    refine wot_ci hTb rfl (call_bin (by rfl) (by rfl)) (im42z (ht.le (B := A + 400) (by omega)) hA hL (by omega)) (fun _ _ _ h => h.2) (allD_ok hXF _) (by rfl) (by rfl) (by rfl) ?_
    rintro r Th' ⟨⟨t2, rfl, hq⟩, _⟩
    refine wot_nil ?_
    refine fini_0 (by simp) rfl ?_
    have h2 := ht.stp hq
    have : b = nb + n := by omega
    subst this
    exact ⟨t2, rfl, h2.le (by omega)⟩
end Go.Ab
