/- The road to a card of this seat: DrawW. Each theorem holds for every input that its own premises speak of. -/
import Derived.Test.YtaaeeiheeihjaaaDoorA2
set_option linter.all false
namespace Go.Ab
section
variable {P : Program}

structure Ext0 (ρ : Ren) (H : Heap) (w : World) (ρ' : Ren) (H' : Heap) (w' : World) : Prop where
  le : ρ.le ρ'
  new : ∀ b l, ρ' b = some l → ρ b = some l ∨ H.size ≤ b
  size : H.size ≤ H'.size
  os : w'.os = w.os
  tape : w'.tape = w.tape
  output : w'.output = w.output
  wsize : w.heap.size ≤ w'.heap.size
  keep : ∀ k, k < w.heap.size → ¬ Wr ρ H k → w'.heap[k]? = w.heap[k]?
  wr : ∀ k, Wr ρ' H' k → k < w.heap.size → Wr ρ H k
  fresh : ∀ b l, ρ' b = some l → ρ b = none → w.heap.size ≤ l.blk ∨ Wr ρ H l.blk
  live : ∀ b B, b < H.size → H'[b]? = some (some B) → ∃ C, H[b]? = some (some C) ∧ C.ro = B.ro

theorem Ext0.step {ρ0 ρ ρ' : Ren} {H0 Hx Hy : Heap} {w0 w w' : World} (h : Ext0 ρ0 H0 w0 ρ Hx w) (hle : ρ.le ρ') (hnew : ∀ b l, ρ' b = some l → ρ b = some l ∨ H0.size ≤ b) (hsize : H0.size ≤ Hy.size)
    (h1 : w'.os = w.os) (h2 : w'.tape = w.tape) (h3 : w'.output = w.output) (h4 : w.heap.size ≤ w'.heap.size)
    (hkeep : ∀ k, k < w.heap.size → ¬ Wr ρ Hx k → w'.heap[k]? = w.heap[k]?) (hwr : ∀ k, Wr ρ' Hy k → k < w.heap.size → Wr ρ Hx k)
    (hfresh : ∀ b l, ρ' b = some l → ρ b = none → w.heap.size ≤ l.blk ∨ Wr ρ Hx l.blk) (hlive : ∀ b B, b < H0.size → Hy[b]? = some (some B) → ∃ C, Hx[b]? = some (some C) ∧ C.ro = B.ro) : Ext0 ρ0 H0 w0 ρ' Hy w' where
  le b l hb := hle _ _ (h.le _ _ hb)
  new b l hb := by
    rcases hnew b l hb with h' | h'
    · exact h.new b l h'
    · exact .inr h'
  size := hsize
  os := h1.trans h.os
  tape := h2.trans h.tape
  output := h3.trans h.output
  wsize := Nat.le_trans h.wsize h4
  keep k hk hn := by
    rw [hkeep k (Nat.lt_of_lt_of_le hk h.wsize) (fun hw => hn (h.wr k hw hk)), h.keep k hk hn]
  wr k hw hk := h.wr k (hwr k hw (Nat.lt_of_lt_of_le hk h.wsize)) hk
  fresh b l hb h0 := by
    cases hρ : ρ b with
    | some m =>
      have := hle _ _ hρ
      rw [hb] at this; cases this
      exact h.fresh b l hρ h0
    | none =>
      rcases hfresh b l hb hρ with h' | h'
      · exact .inl (Nat.le_trans h.wsize h')
      · by_cases hlt : l.blk < w0.heap.size
        · exact .inr (h.wr _ h' hlt)
        · exact .inl (Nat.le_of_not_lt hlt)
  live b B hb hB := by
    obtain ⟨C, hC, e⟩ := hlive b B hb hB
    obtain ⟨D, hD, e'⟩ := h.live b C hb hC
    exact ⟨D, hD, e'.trans e⟩

theorem alloc_at {ρ : Ren} {H : Heap} {w : World} (hr : Rel P ρ H w) {b0 : Nat} (h0 : ρ b0 = none) {B : Blk} (hB0 : H[b0]? = some (some B)) {sz : Nat} (hs : sizeA P B.elem = some sz) {cs' : Array Value} (hc : All2 (CRel ρ) B.cells (cs'.toList.take B.cells.length)) :
    Rel P (ρ.put b0 ⟨w.heap.size, 0, sz, cs'.size⟩) H (w.alloc (.cells cs' B.elem)) ∧ (∀ k, Wr (ρ.put b0 ⟨w.heap.size, 0, sz, cs'.size⟩) H k → k < w.heap.size → Wr ρ H k) := by
  have hle := Ren.put_le (l := ⟨w.heap.size, 0, sz, cs'.size⟩) h0
  have hlen : B.cells.length ≤ cs'.size := by have := hc.length; simp at this; omega
  refine ⟨⟨?_, ?_, ?_, hr.glob.mono hle⟩, ?_⟩
  · intro b C l hC hl
    by_cases e0 : b = b0
    · subst e0
      rw [hB0] at hC; cases hC
      rw [Ren.put_same] at hl; cases hl
      refine ⟨by simp; exact hlen, hs, cs', B.elem, (0, 0), heap_alloc_new w _, Nat.le_refl _, fun _ => rfl, ?_⟩
      intro i v hv
      obtain ⟨v', hv', hrel⟩ := hc.get i v hv
      rw [List.getElem?_take] at hv'
      split at hv'
      · exact ⟨v', by simpa using hv', hrel.mono hle⟩
      · simp at hv'
    · have hl' : ρ b = some l := by simpa [Ren.put, e0] using hl
      obtain ⟨h1, h2, ccs, e', fr, hw, h3, h4, h5⟩ := hr.row b C l hC hl'
      refine ⟨h1, h2, ccs, e', fr, ?_, h3, h4, fun i v hv => ?_⟩
      · rw [heap_alloc_old w _ _ (hr.dom _ _ hl').2]; exact hw
      · obtain ⟨v', hv', hrel⟩ := h5 i v hv
        exact ⟨v', hv', hrel.mono hle⟩
  · intro b c C D l m hC hD hl hm hlm
    by_cases eb : b = b0
    · by_cases ec : c = b0
      · exact .inl (eb.trans ec.symm)
      · subst eb
        rw [Ren.put_same] at hl; cases hl
        have hm' : ρ c = some m := by simpa [Ren.put, ec] using hm
        have := (hr.dom _ _ hm').2
        simp at hlm; omega
    · have hl' : ρ b = some l := by simpa [Ren.put, eb] using hl
      by_cases ec : c = b0
      · subst ec
        rw [Ren.put_same] at hm; cases hm
        have := (hr.dom _ _ hl').2
        simp at hlm; omega
      · have hm' : ρ c = some m := by simpa [Ren.put, ec] using hm
        exact hr.inj b c C D l m hC hD hl' hm' hlm
  · intro b l hl
    by_cases eb : b = b0
    · subst eb
      rw [Ren.put_same] at hl; cases hl
      exact ⟨(Array.getElem?_eq_some_iff.1 hB0).1, by simp⟩
    · have hl' : ρ b = some l := by simpa [Ren.put, eb] using hl
      have := hr.dom _ _ hl'
      simp; omega
  · rintro k ⟨b, C, l, hC, hCro, hl, rfl⟩ hk
    by_cases eb : b = b0
    · subst eb
      rw [Ren.put_same] at hl; cases hl
      simp at hk
    · exact ⟨b, C, l, hC, hCro, by simpa [Ren.put, eb] using hl, rfl⟩

structure Nx (ops : Array Oper) (D : Nat → Bool) (nx : Nat) : Prop where
  le : nx ≤ ops.size
  todo : ∀ c, isLoud ops c → c < nx → D c = true
  rest : ∀ c, isLoud ops c → nx ≤ c → D c = false
  at_ : nx < ops.size → isLoud ops nx

theorem next_loud (ops : Array Oper) : ∀ m k, k + m = ops.size → ∃ nx, k ≤ nx ∧ nx ≤ ops.size ∧ (∀ c, k ≤ c → c < nx → ¬ isLoud ops c) ∧ (nx < ops.size → isLoud ops nx)
  | 0, k, h => ⟨k, Nat.le_refl _, by omega, fun c h1 h2 => by omega, fun h' => by omega⟩
  | m + 1, k, h => by
    by_cases hl : isLoud ops k
    · exact ⟨k, Nat.le_refl _, by omega, fun c h1 h2 => by omega, fun _ => hl⟩
    · obtain ⟨nx, h1, h2, h3, h4⟩ := next_loud ops m (k + 1) (by omega)
      refine ⟨nx, by omega, h2, fun c hc1 hc2 => ?_, h4⟩
      by_cases hck : c = k
      · subst hck; exact hl
      · exact h3 c (by omega) hc2

structure Inv (P : Program) (call : CallF) (ops : Array Oper) (S : Nat → Array Value × Heap) (ρ0 : Ren) (w0 : World) (df : List Deferred) (D : Nat → Bool) (a : Act) (w : World) : Prop where
  closed : Closed ops (fun i => D i = true)
  df : a.defers = df
  mem : ∃ nx ρ, Nx ops D nx ∧ (∀ b l, ρ b = some l → b < (S 0).2.size ∨ ∃ i, D i = true ∧ i < ops.size ∧ (S i).2.size ≤ b ∧ b < (S (i + 1)).2.size) ∧
    TRel ρ (slots (dsts ops) (puts P call ops S) (S 0).1 D ops.size) a.tmps ∧ Rel P ρ (HD (fun i => (S i).2) ops.size nx) w ∧ Ext0 ρ0 (S 0).2 w0 ρ (HD (fun i => (S i).2) ops.size nx) w ∧
    (∀ i, D i = true → i < ops.size → ∀ b, (S i).2.size ≤ b → b < (S (i + 1)).2.size → ∃ l, ρ b = some l)

variable {call : CallF} {ops : Array Oper} {S : Nat → Array Value × Heap} {ρ0 : Ren} {w0 : World} {df : List Deferred}

theorem Inv.start (r : Run P call ops S) (hr : Rel P ρ0 (S 0).2 w0) {a : Act} (ht : TRel ρ0 (S 0).1 a.tmps) : Inv P call ops S ρ0 w0 a.defers (fun _ => false) a w0 := by
  obtain ⟨nx, _, h2, h3, h4⟩ := next_loud ops ops.size 0 (by omega)
  have hcr0 : ∀ b, b < (S 0).2.size → ∀ n, cr (fun i => (S i).2) b n = 0 := by
    intro b hb n
    induction n with
    | zero => rfl
    | succ n ih => simp only [cr]; rw [if_pos (Nat.lt_of_lt_of_le hb (r.mono 0 n (Nat.zero_le _))), ih]
  have hget : ∀ b B, b < (S 0).2.size → ((HD (fun i => (S i).2) ops.size nx)[b]? = some (some B) ↔ (S 0).2[b]? = some (some B)) := by
    intro b B hb
    rw [HD_get]
    have hlt : b < (S ops.size).2.size := Nat.lt_of_lt_of_le hb (r.mono 0 _ (Nat.zero_le _))
    simp only [hlt, true_and, hcr0 b hb, Nat.max_zero]
    rw [r.quiet_span (Nat.zero_le nx) (fun k _ hk => h3 k (Nat.zero_le _) hk) hb]
  have hsz : (S 0).2.size ≤ (HD (fun i => (S i).2) ops.size nx).size := by rw [HD_size]; exact r.mono 0 _ (Nat.zero_le _)
  refine ⟨fun j o h => by simp at h, rfl, nx, ρ0, ⟨h2, fun c hc hlt => absurd hc (h3 c (Nat.zero_le _) hlt), fun _ _ _ => rfl, h4⟩, fun b l hl => .inl (hr.dom b l hl).1, ?_, ?_, ?_, fun i h => by simp at h⟩
  · have : ∀ k, slots (dsts ops) (puts P call ops S) (S 0).1 (fun _ => false) k = (S 0).1 := by
      intro k; induction k with
      | zero => rfl
      | succ k ih => simp [slots, ih]
    rw [this]; exact ht
  · refine ⟨fun b B l hB hl => hr.row b B l ((hget b B (hr.dom _ _ hl).1).1 hB) hl, fun b c B C l m hB hC hl hm h => ?_, fun b l hl => ⟨Nat.lt_of_lt_of_le (hr.dom b l hl).1 hsz, (hr.dom b l hl).2⟩, hr.glob⟩
    exact hr.inj b c B C l m ((hget b B (hr.dom _ _ hl).1).1 hB) ((hget c C (hr.dom _ _ hm).1).1 hC) hl hm h
  · refine ⟨fun _ _ h => h, fun _ _ h => .inl h, hsz, rfl, rfl, rfl, Nat.le_refl _, fun _ _ _ => rfl, ?_, fun b l h h0 => by rw [h0] at h; (cases h), fun b B hb hB => ⟨B, (hget b B hb).1 hB, rfl⟩⟩
    rintro k ⟨b, B, l, hB, hro, hl, rfl⟩ _
    exact ⟨b, B, l, (hget b B (hr.dom _ _ hl).1).1 hB, hro, hl, rfl⟩

theorem Inv.finish (r : Run P call ops S) {D : Nat → Bool} {a : Act} {w : World} (h : Inv P call ops S ρ0 w0 df D a w) (hall : ∀ i, i < ops.size → D i = true) :
    After P ρ0 (S 0).2 w0 (S ops.size).1 (S ops.size).2 df a w := by
  obtain ⟨hc, hdf, nx, ρ, hnx, hdom, ht, hr, hx, hcov⟩ := h
  have hn : nx = ops.size := by
    rcases Nat.lt_or_ge nx ops.size with hlt | hge
    · have := hnx.rest nx (hnx.at_ hlt) (Nat.le_refl _)
      rw [hall nx hlt] at this; cases this
    · have := hnx.le; omega
  subst hn
  have hH : HD (fun i => (S i).2) ops.size ops.size = (S ops.size).2 := by
    apply Array.ext_getElem?
    intro b
    unfold HD
    rw [Array.getElem?_ofFn]
    split
    · rename_i hb
      have := (cr_spec (fun i => (S i).2) r.mono b ops.size hb).2.1
      rw [Nat.max_eq_left this]
      show some (look (S ops.size).2 b) = _
      unfold look
      cases hh : (S ops.size).2[b]? with
      | none =>
        rw [Array.getElem?_eq_none_iff] at hh
        exact absurd hb (Nat.not_lt.2 hh)
      | some x => rfl
    · rename_i hb
      exact (Array.getElem?_eq_none (Nat.le_of_not_lt hb)).symm
  rw [hH] at hr hx
  have htot : ∀ b, (S 0).2.size ≤ b → ∀ m, m ≤ ops.size → b < (S m).2.size → ∃ l, ρ b = some l := by
    intro b h0 m
    induction m with
    | zero => intro _ h1; exact absurd h1 (Nat.not_lt.2 h0)
    | succ m ih =>
      intro hm h1
      rcases Nat.lt_or_ge b (S m).2.size with h2 | h2
      · exact ih (by omega) h2
      · exact hcov m (hall m (by omega)) (by omega) b h2 h1
  refine ⟨hdf, ρ, ?_, hr, ⟨hx.le, hx.new, hx.size, hx.os, hx.tape, hx.output, hx.wsize, hx.keep, hx.wr, hx.fresh, hx.live, fun b h1 h2 => htot b h1 _ (Nat.le_refl _) h2⟩⟩
  rw [r.slots ops.size (Nat.le_refl _)]
  have : ∀ k, k ≤ ops.size → slots (dsts ops) (puts P call ops S) (S 0).1 D k = slots (dsts ops) (puts P call ops S) (S 0).1 (fun _ => true) k := by
    intro k
    induction k with
    | zero => intro _; rfl
    | succ k ih => intro hk; simp only [slots]; rw [hall k (by omega), ih (by omega)]; simp
  rw [← this ops.size (Nat.le_refl _)]
  exact ht

theorem names_at (dF : DrawFacts ops) {D : Nat → Bool} (hc : Closed ops (fun i => D i = true)) {j : Nat} {o : Oper} (ho : ops[j]? = some o) (hDj : D j = false)
    (hdep : ∀ e ∈ o.after, Region.binds .any e = true → D e.on = true) :
    (∀ i, befP (ancs ops) i j → D i = true) ∧ (∀ i, befP (ancs ops) j i → D i = false) ∧
    (∀ t ∈ namesOf ops o, ∀ i, i < ops.size → dsts ops i = some t → (D i = true ↔ i < j)) := by
  have hc' : Closed ops (fun i => D i = true ∨ i = j) := by
    intro i oi hi hoi e he hb
    rcases hi with hi | rfl
    · exact .inl (hc i oi hi hoi e he hb)
    · rw [ho] at hoi; cases hoi
      exact .inl (hdep e he hb)
  have h1 : ∀ i, befP (ancs ops) i j → D i = true := by
    intro i hi
    rcases dF.cl _ hc' j i hi (.inr rfl) with h | h
    · exact h
    · have := dF.lt i j hi; omega
  have h2 : ∀ i, befP (ancs ops) j i → D i = false := by
    intro i hi
    cases hD : D i with
    | false => rfl
    | true =>
      have := dF.cl _ hc i j hi hD
      rw [hDj] at this; cases this
  refine ⟨h1, h2, fun t ht i hi hd => ?_⟩
  by_cases hij : i = j
  · subst hij; simp [hDj]
  · have hoi : ops[i]? = some ops[i] := by simp [hi]
    rcases dF.rel i j _ o hoi ho hij with h | h | ⟨_, h⟩
    · simp [h1 i h, dF.lt i j h]
    · have := dF.lt j i h
      simp [h2 i h]; omega
    · exact absurd ht (h t (by simpa [dsts, hoi] using hd))

theorem opA_ex (hcs : CallSim P call) {T : Array Value} {o : Oper} {H H' : Heap} {v : Value} (h : opA P call T o H = some (v, H')) {ρ : Ren} {w : World} (hr : Rel P ρ H w) {T' : Array Value} (ht : TRel ρ T T') :
    ∃ v' w' ρ', VRel ρ' v v' ∧ Rel P ρ' H' w' ∧ Ext ρ H w ρ' H' w' := by
  obtain ⟨hok, hc⟩ := opA_cases h
  have he : ∀ x ∈ o.op.operands, VRel ρ (evT T x) (({ tmps := T', defers := [] } : Act).eval x) := fun x hx => TRel.ev ht hr.glob [] (hok x hx)
  rcases hc with ⟨f, args, ts, g, first, captured, heq, hf, hc⟩ | hs
  · have e1 := he f (by simp [heq, Op.operands, Call.operands])
    rw [hf] at e1
    obtain ⟨first', captured', e2, h1, h2⟩ := e1.inv_func
    have hargs : All2 (VRel ρ) ((first ++ args.map (evT T)) ++ captured).toList ((first' ++ args.map ({ tmps := T', defers := [] } : Act).eval) ++ captured').toList := by
      simp only [Array.toList_append, Array.toList_map]
      refine ((Base.toVRel h1).append ?_).append (Base.toVRel h2)
      exact All2.mapBoth fun x hx => he x (by simp [heq, Op.operands, Call.operands]; exact .inr (Array.mem_toList_iff.1 hx))
    obtain ⟨_, c2⟩ := hcs g _ H v H' hc ρ w _ hr hargs
    obtain ⟨e, w', fr, ⟨v', ρ', _, hv, hr', hx⟩, _⟩ := c2 []
    exact ⟨v', w', ρ', hv, hr', hx⟩
  · have hg : Goes P ρ H w ({ tmps := T', defers := [] } : Act).eval o v H' := by
      cases hl : loud o.op with
      | true => exact goes_loud hr hl hs he
      | false => exact goes_kind hr (kind_of hl hs) he
    obtain ⟨nx, w', ρ', _, hnx, hr', hx⟩ := hg
    rcases hnx with ⟨v', _, hv⟩ | ⟨_, rfl⟩
    · exact ⟨v', w', ρ', hv, hr', hx⟩
    · exact ⟨_, w', ρ', VRel.undef _, hr', hx⟩

theorem Run.worlds (r : Run P call ops S) (hcs : CallSim P call) (hr : Rel P ρ0 (S 0).2 w0) {T' : Array Value} (ht : TRel ρ0 (S 0).1 T') : ∀ k, k ≤ ops.size → ∃ ρ w T', Rel P ρ (S k).2 w ∧ TRel ρ (S k).1 T' ∧ Ext ρ0 (S 0).2 w0 ρ (S k).2 w
  | 0, _ => ⟨ρ0, w0, T', hr, ht, Ext.refl _ _ _⟩
  | k + 1, hk => by
    obtain ⟨ρ, w, T1, hr1, ht1, hx1⟩ := r.worlds hcs hr ht k (by omega)
    have ho : ops[k]? = some ops[k] := by simp
    have hs := r.step k _ ho
    unfold stA at hs
    split at hs
    · obtain ⟨⟨v, H2⟩, h1, h2⟩ := map_some hs
      obtain ⟨v', w', ρ', hv, hr', hx⟩ := opA_ex hcs h1 hr1 ht1
      rw [← h2]
      exact ⟨ρ', w', _, hr', (ht1.mono hx.le).put _ hv [], hx1.trans hx⟩
    · simp at hs
      rw [← hs]
      exact ⟨ρ, w, _, hr1, ht1.put _ (VRel.undef _) [], hx1⟩

theorem Inv.step (dF : DrawFacts ops) (r : Run P call ops S) (st : Stable P call ops S) (hcs : CallSim P call) (hr0 : Rel P ρ0 (S 0).2 w0) {T0' : Array Value} (ht0 : TRel ρ0 (S 0).1 T0') {D : Nat → Bool} {a : Act} {w : World} (h : Inv P call ops S ρ0 w0 df D a w) {j : Nat} {o : Oper} (ho : ops[j]? = some o) (hDj : D j = false)
    (hdep : ∀ e ∈ o.after, Region.binds .any e = true → D e.on = true) {K : Act → World → Prop} {Q : Exit → Act → World → Prop}
    (hK : ∀ a' w', Inv P call ops S ρ0 w0 df (fun i => D i || i == j) a' w' → K a' w') {rd : Option Nat} {nn : Nat} : wpOpIn (FW rd) nn P ops Q j K a w := by
  obtain ⟨hc, hdf, nx, ρ, hnx, hdom, ht, hr, hx, hcov⟩ := h
  have hj : j < ops.size := (Array.getElem?_eq_some_iff.1 ho).1
  obtain ⟨hanc, hdesc, hnames⟩ := names_at dF hc ho hDj hdep
  have hc' : Closed ops (fun i => (D i || i == j) = true) := by
    intro i oi hi hoi e he hb
    simp only [Bool.or_eq_true, beq_iff_eq] at hi ⊢
    rcases hi with hi | rfl
    · exact .inl (hc i oi hi hoi e he hb)
    · rw [ho] at hoi; cases hoi
      exact .inl (hdep e he hb)
  have hslot : ∀ t ∈ namesOf ops o, (slots (dsts ops) (puts P call ops S) (S 0).1 D ops.size)[t]? = (S j).1[t]? := by
    intro t hm
    rw [r.slots j (by omega)]
    exact slots_at (by omega) (hnames t hm)
  have hdj : dsts ops j = o.dst := by simp [dsts, ho]
  have hadd : slots (dsts ops) (puts P call ops S) (S 0).1 (fun i => D i || i == j) ops.size = putT (slots (dsts ops) (puts P call ops S) (S 0).1 D ops.size) o.dst (puts P call ops S j) := by
    rw [← hdj]
    refine slots_add hj hDj fun i t hi h1 h2 hD => ?_
    have : t ∈ namesOf ops o := by
      rw [hdj] at h2
      simp [namesOf, h2]
    exact (hnames t this i hi h1).1 hD
  have hev : ∀ x ∈ o.op.operands, evT (S j).1 x = evT (slots (dsts ops) (puts P call ops S) (S 0).1 D ops.size) x := by
    intro x hxm
    cases x with
    | tmp t =>
      have hm : t ∈ namesOf ops o := by
        simp only [namesOf, Oper.looksAt, List.mem_append, List.mem_filterMap]
        exact .inr (.inl ⟨.tmp t, Array.mem_toList_iff.2 hxm, rfl⟩)
      have := hslot t hm
      simp only [evT, Array.getD_eq_getD_getElem?, this]
    | const v => rfl
    | global g => rfl
    | func f => rfl
  have hwant : Region.wanted o (yielded ops a.tmps) = wantedA ops (S j).1 o := by
    unfold wantedA Region.wanted
    cases hg : o.guard with
    | none => rfl
    | some gw =>
      obtain ⟨g, want⟩ := gw
      simp only
      rw [← yielded_rel ht g]
      have : yielded ops (slots (dsts ops) (puts P call ops S) (S 0).1 D ops.size) g = yielded ops (S j).1 g := by
        unfold yielded
        cases hd : (ops[g]?).bind (·.dst) with
        | none => rfl
        | some d =>
          simp only [Option.bind_some]
          rw [hslot d (by simp [namesOf, Oper.looksAt, hg, hd])]
      rw [this]
  -- what is left where the operation is not loud
  have hnx' : ¬ isLoud ops j → Nx ops (fun i => D i || i == j) nx := by
    intro hl
    refine ⟨hnx.le, fun c hcl hlt => by simp [hnx.todo c hcl hlt], fun c hcl hge => ?_, hnx.at_⟩
    have hcj : c ≠ j := fun e => hl (e ▸ hcl)
    simp [hnx.rest c hcl hge, hcj]
  have hdom' : ∀ b l, ρ b = some l → b < (S 0).2.size ∨ ∃ i, (D i || i == j) = true ∧ i < ops.size ∧ (S i).2.size ≤ b ∧ b < (S (i + 1)).2.size := by
    intro b l hl
    rcases hdom b l hl with h1 | ⟨i, h1, h2⟩
    · exact .inl h1
    · exact .inr ⟨i, by simp [h1], h2⟩
  have hcrle : ∀ b k, b < (S k).2.size → k ≤ ops.size → cr (fun i => (S i).2) b ops.size ≤ k := by
    intro b k hb hk
    obtain ⟨h1, h2, h3⟩ := cr_spec (fun i => (S i).2) r.mono b ops.size (Nat.lt_of_lt_of_le hb (r.mono k _ hk))
    rcases Nat.lt_or_ge k (cr (fun i => (S i).2) b ops.size) with hlt | hge
    · have := h3 k hlt
      exact absurd hb (Nat.not_lt.2 this)
    · exact hge
  have hjn : isLoud ops j → nx = j := by
    intro hl
    rcases Nat.lt_trichotomy nx j with hlt | heq | hgt
    · have hln := hnx.at_ (by omega)
      obtain ⟨on, hon, hlon⟩ := hln
      obtain ⟨oj, hoj, hloj⟩ := hl
      rcases dF.rel nx j on oj hon hoj (by omega) with hh | hh | ⟨hh, _⟩
      · have := hanc nx hh
        rw [hnx.rest nx ⟨on, hon, hlon⟩ (Nat.le_refl _)] at this; cases this
      · have := dF.lt j nx hh; omega
      · simp [hlon, hloj] at hh
    · exact heq
    · have := hnx.todo j hl hgt
      rw [hDj] at this; cases this
  unfold wpOpIn
  rw [ho]
  simp only
  rw [hwant]
  by_cases hw : wantedA ops (S j).1 o = true
  rotate_left
  · -- it is passed over
    have hw' : wantedA ops (S j).1 o = false := by simpa using hw
    rw [hw']
    simp only [Bool.false_eq_true, if_false]
    have hstep := r.step j o ho
    unfold stA at hstep
    rw [hw'] at hstep
    simp at hstep
    have hp : puts P call ops S j = undef := by simp [puts, ho, hw']
    have hH : (S (j + 1)).2 = (S j).2 := by rw [← hstep]
    have hcov' : ∀ i, (D i || i == j) = true → i < ops.size → ∀ b, (S i).2.size ≤ b → b < (S (i + 1)).2.size → ∃ l, ρ b = some l := by
      intro i hi hin b h1 h2
      simp only [Bool.or_eq_true, beq_iff_eq] at hi
      rcases hi with hi | rfl
      · exact hcov i hi hin b h1 h2
      · rw [hH] at h2; exact absurd h2 (Nat.not_lt.2 h1)
    refine ⟨fun _ _ => trivial, hK _ _ ⟨hc', (act_put_defers _ _ _).trans hdf, ?_⟩⟩
    by_cases hl : isLoud ops j
    · -- the next loud one is another one
      have hjn := hjn hl
      subst hjn
      obtain ⟨nx2, h1, h2, h3, h4⟩ := next_loud ops (ops.size - (nx + 1)) (nx + 1) (by omega)
      have hsame : HD (fun i => (S i).2) ops.size nx2 = HD (fun i => (S i).2) ops.size nx := by
        unfold HD
        congr 1
        funext b
        have hb : b.val < (S ops.size).2.size := b.isLt
        obtain ⟨c1, c2, c3⟩ := cr_spec (fun i => (S i).2) r.mono b.val ops.size hb
        unfold look
        rcases Nat.lt_or_ge (cr (fun i => (S i).2) b.val ops.size) (nx + 1) with hlt | hge
        · have e1 : max nx2 (cr (fun i => (S i).2) b.val ops.size) = nx2 := by omega
          have e2 : max nx (cr (fun i => (S i).2) b.val ops.size) = nx := by omega
          have hbn : b.val < (S nx).2.size := Nat.lt_of_lt_of_le c1 (r.mono _ _ (by omega))
          have hbn1 : b.val < (S (nx + 1)).2.size := Nat.lt_of_lt_of_le hbn (r.mono _ _ (by omega))
          rw [e1, e2, r.quiet_span h1 (fun k hk1 hk2 => h3 k hk1 hk2) hbn1, hH]
        · rcases Nat.lt_or_ge (cr (fun i => (S i).2) b.val ops.size) nx2 with hlt2 | hge2
          · have e1 : max nx2 (cr (fun i => (S i).2) b.val ops.size) = nx2 := by omega
            have e2 : max nx (cr (fun i => (S i).2) b.val ops.size) = cr (fun i => (S i).2) b.val ops.size := by omega
            rw [e1, e2, r.quiet_span (Nat.le_of_lt hlt2) (fun k hk1 hk2 => h3 k (by omega) hk2) c1]
          · have e1 : max nx2 (cr (fun i => (S i).2) b.val ops.size) = cr (fun i => (S i).2) b.val ops.size := by omega
            have e2 : max nx (cr (fun i => (S i).2) b.val ops.size) = cr (fun i => (S i).2) b.val ops.size := by omega
            rw [e1, e2]
      refine ⟨nx2, ρ, ⟨h2, fun c hcl hlt => ?_, fun c hcl hge => ?_, h4⟩, hdom', ?_, by rw [hsame]; exact hr, by rw [hsame]; exact hx, hcov'⟩
      · by_cases hcn : c ≤ nx
        · rcases Nat.lt_or_eq_of_le hcn with hlt' | rfl
          · simp [hnx.todo c hcl hlt']
          · simp
        · exact absurd hcl (h3 c (by omega) hlt)
      · have : c ≠ nx := by omega
        simp [hnx.rest c hcl (by omega), this]
      · rw [hadd, hp]; exact ht.put o.dst (VRel.undef _) a.defers
    · exact ⟨nx, ρ, hnx' hl, hdom', by rw [hadd, hp]; exact ht.put o.dst (VRel.undef _) a.defers, hr, hx, hcov'⟩
  · rw [hw]
    simp only [if_true]
    by_cases hl : loud o.op = true
    rotate_left
    · -- not loud
      have hl' : loud o.op = false := by simpa using hl
      have hnl : ¬ isLoud ops j := by
        rintro ⟨o', ho', hlo⟩
        rw [ho] at ho'; cases ho'
        exact hl hlo
      rcases r.quiet ho hl' with ⟨h1, _⟩ | ⟨_, hop, hk⟩
      · rw [hw] at h1; cases h1
      have hok := (opA_cases hop).1
      have hsem := Oper.semAt_eq (FW rd).round a.eval o (not_defer hop)
      have hops : ∀ x ∈ o.op.operands, VRel ρ (evT (S j).1 x) (a.eval x) := fun x hxm => by
        rw [hev x hxm]; exact TRel.ev ht hr.glob a.defers (hok x hxm)
      have close : ∀ (ρ' : Ren) (w' : World) (v' : Value), ρ.le ρ' → VRel ρ' (puts P call ops S j) v' → (∀ b l, ρ' b = some l → b < (S 0).2.size ∨ ∃ i, (D i || i == j) = true ∧ i < ops.size ∧ (S i).2.size ≤ b ∧ b < (S (i + 1)).2.size) →
          Rel P ρ' (HD (fun i => (S i).2) ops.size nx) w' → Ext0 ρ0 (S 0).2 w0 ρ' (HD (fun i => (S i).2) ops.size nx) w' → (∀ b, (S j).2.size ≤ b → b < (S (j + 1)).2.size → ∃ l, ρ' b = some l) → K (a.put o.dst v') w' := fun ρ' w' v' hle hv hd2 hr' hx' hcj =>
        hK _ _ ⟨hc', (act_put_defers _ _ _).trans hdf, nx, ρ', hnx' hnl, hd2, by rw [hadd]; exact (ht.mono hle).put o.dst hv a.defers, hr', hx', fun i hi hin b h1 h2 => by
          simp only [Bool.or_eq_true, beq_iff_eq] at hi
          rcases hi with hi | rfl
          · obtain ⟨l, hl⟩ := hcov i hi hin b h1 h2
            exact ⟨l, hle _ _ hl⟩
          · exact hcj b h1 h2⟩
      generalize hv0 : puts P call ops S j = v at *
      generalize hH1 : (S (j + 1)).2 = H1 at *
      cases hk with
      | pure hnl2 hp =>
        obtain ⟨v', hv, hrun⟩ := hp ρ a.eval hops
        refine ⟨fun _ _ => trivial, ?_⟩
        rw [hsem]
        rw [hrun o w rfl, Oper.uponIn_value]
        exact close ρ w v' (fun _ _ h => h) hv hdom' hr hx (fun b h1 h2 => absurd h2 (Nat.not_lt.2 h1))
      | @load t x ad v heq hxx hload =>
        have e1 := hops x (by simp [heq, Op.operands])
        rw [hxx] at e1
        obtain ⟨l, hlb, e⟩ := e1.inv_ptr
        have hbj : ad.block < (S j).2.size := by
          unfold loadA at hload
          rcases Nat.lt_or_ge ad.block (S j).2.size with h1 | h1
          · exact h1
          · exfalso
            split at hload
            · split at hload
              · simp [cellsA, Array.getElem?_eq_none h1] at hload
              · simp at hload
            · simp [cellA, Array.getElem?_eq_none h1] at hload
            · simp at hload
        have hld : loadA P (HD (fun i => (S i).2) ops.size nx) t ad = some v := by
          -- the block reads the same at every heap that the order lets it be read in
          have hcrj := hcrle ad.block j hbj (by omega)
          obtain ⟨c1, c2, c3⟩ := cr_spec (fun i => (S i).2) r.mono ad.block ops.size (Nat.lt_of_lt_of_le hbj (r.mono j _ (by omega)))
          have loadcongr : ∀ (Ha Hb : Heap), Ha[ad.block]? = Hb[ad.block]? → loadA P Ha t ad = loadA P Hb t ad := by
            intro Ha Hb hh
            unfold loadA cellsA cellA
            rw [hh]
          have up : ∀ m, j + m ≤ ops.size → (∀ c, isLoud ops c → j ≤ c → c < j + m → ¬ befP (ancs ops) j c) → loadA P (S (j + m)).2 t ad = some v := by
            intro m
            induction m with
            | zero => intro _ _; exact hload
            | succ m ih =>
              intro hm hq
              by_cases hlm : isLoud ops (j + m)
              · have hne : j + m ≠ j := fun e => hnl (e ▸ hlm)
                rcases (st.load j o t x ad v (j + m) ho hw heq hxx hload hlm (fun hh => by have := dF.lt _ _ hh; omega) (hq (j + m) hlm (by omega) (by omega)) (by omega)).2 with hh | hh
                · exact absurd (Nat.lt_of_lt_of_le hbj (r.mono j (j + m + 1) (by omega))) (Nat.not_lt.2 hh)
                · exact hh
              · rw [← Nat.add_assoc, loadcongr _ _ (r.quiet_get hlm (Nat.lt_of_lt_of_le hbj (r.mono j (j + m) (by omega))))]
                exact ih (by omega) fun c h1 h2 h3 => hq c h1 h2 (by omega)
          have down : ∀ m, m ≤ j → cr (fun i => (S i).2) ad.block ops.size ≤ j - m → (∀ c, isLoud ops c → j - m ≤ c → c < j → ¬ befP (ancs ops) c j) → loadA P (S (j - m)).2 t ad = some v := by
            intro m
            induction m with
            | zero => intro _ _ _; exact hload
            | succ m ih =>
              intro hm hcm hq
              have hbm : ad.block < (S (j - (m + 1))).2.size := Nat.lt_of_lt_of_le c1 (r.mono _ _ hcm)
              have hsucc : j - (m + 1) + 1 = j - m := by omega
              by_cases hlm : isLoud ops (j - (m + 1))
              · rcases (st.load j o t x ad v (j - (m + 1)) ho hw heq hxx hload hlm (hq _ hlm (Nat.le_refl _) (by omega)) (fun hh => by have := dF.lt _ _ hh; omega) (by omega)).1 with hh | hh
                · exact absurd hbm (Nat.not_lt.2 hh)
                · exact hh
              · have := r.quiet_get hlm hbm
                rw [← loadcongr _ _ this, hsucc]
                exact ih (by omega) (by omega) fun c h1 h2 h3 => hq c h1 (by omega) h3
          have hHDb : (HD (fun i => (S i).2) ops.size nx)[ad.block]? = (S (max nx (cr (fun i => (S i).2) ad.block ops.size))).2[ad.block]? := by
            unfold HD
            have hb : ad.block < (S ops.size).2.size := Nat.lt_of_lt_of_le hbj (r.mono j _ (by omega))
            rw [Array.getElem?_ofFn]
            simp only [hb, dif_pos]
            unfold look
            have hb2 : ad.block < (S (max nx (cr (fun i => (S i).2) ad.block ops.size))).2.size := Nat.lt_of_lt_of_le c1 (r.mono _ _ (by omega))
            cases hh : (S (max nx (cr (fun i => (S i).2) ad.block ops.size))).2[ad.block]? with
            | none => rw [Array.getElem?_eq_none_iff] at hh; omega
            | some y => rfl
          rw [loadcongr _ _ hHDb]
          have hquiet : ∀ c, isLoud ops c → ¬ (nx ≤ c ∧ c < j ∧ befP (ancs ops) c j) := by
            rintro c hcl ⟨h1, h2, h3⟩
            have := hanc c h3
            rw [hnx.rest c hcl h1] at this; cases this
          have hquiet2 : ∀ c, isLoud ops c → c < nx → ¬ befP (ancs ops) j c := by
            intro c hcl h1 h3
            have := hdesc c h3
            rw [hnx.todo c hcl h1] at this; cases this
          rcases Nat.lt_or_ge (max nx (cr (fun i => (S i).2) ad.block ops.size)) j with hlt | hge
          · have := down (j - max nx (cr (fun i => (S i).2) ad.block ops.size)) (by omega) (by omega) (fun c hcl h1 h2 h3 => hquiet c hcl ⟨by omega, h2, h3⟩)
            rwa [show j - (j - max nx (cr (fun i => (S i).2) ad.block ops.size)) = max nx (cr (fun i => (S i).2) ad.block ops.size) by omega] at this
          · have := up (max nx (cr (fun i => (S i).2) ad.block ops.size) - j) (by have := hnx.le; omega) (fun c hcl h1 h2 => by
              rcases Nat.lt_or_ge c nx with hcn | hcn
              · exact hquiet2 c hcl hcn
              · exfalso; omega)
            rwa [show j + (max nx (cr (fun i => (S i).2) ad.block ops.size) - j) = max nx (cr (fun i => (S i).2) ad.block ops.size) by omega] at this
        obtain ⟨v', hv, hrun⟩ := load_rel hr hlb hld
        refine ⟨fun _ _ => trivial, ?_⟩
        rw [hsem]
        have : (execOp a.eval o).run P w = .ok (.value v') w := by simp [execOp, heq, e, Instr.loadAt, Instr.sureAddr, hrun]
        rw [this, Oper.uponIn_value]
        exact close ρ w v' (fun _ _ h => h) hv hdom' hr hx (fun b h1 h2 => absurd h2 (Nat.not_lt.2 h1))
      | @new v B hnl2 hnew =>
        obtain ⟨cs', sz, hs, hcr, hro, hrun⟩ := hnew ρ a.eval hops
        obtain ⟨v', hrun, hv⟩ := hrun w
        have hb0 : ρ (S j).2.size = none := by
          cases hh : ρ (S j).2.size with
          | none => rfl
          | some l =>
            exfalso
            rcases hdom _ l hh with h1 | ⟨i, h1, h2, h3, h4⟩
            · exact absurd h1 (Nat.not_lt.2 (r.mono 0 j (Nat.zero_le _)))
            · rcases Nat.lt_trichotomy i j with h5 | h5 | h5
              · exact absurd h4 (Nat.not_lt.2 (r.mono (i + 1) j h5))
              · subst h5; rw [hDj] at h1; cases h1
              · have := r.mono (j + 1) i h5
                rw [hH1] at this
                simp at this
                omega
        have hlt1 : (S j).2.size < (S (j + 1)).2.size := by rw [hH1]; simp
        have hltn : (S j).2.size < (S ops.size).2.size := Nat.lt_of_lt_of_le hlt1 (r.mono _ _ (by omega))
        have hcrb : cr (fun i => (S i).2) (S j).2.size ops.size = j + 1 := by
          obtain ⟨c1, c2, c3⟩ := cr_spec (fun i => (S i).2) r.mono (S j).2.size ops.size hltn
          have h1 := hcrle _ (j + 1) hlt1 (by omega)
          rcases Nat.lt_or_ge (cr (fun i => (S i).2) (S j).2.size ops.size) (j + 1) with h2 | h2
          · exact absurd c1 (Nat.not_lt.2 (r.mono _ j (by omega)))
          · omega
        have hB0 : (HD (fun i => (S i).2) ops.size nx)[(S j).2.size]? = some (some B) := by
          rw [HD_get]
          refine ⟨hltn, ?_⟩
          rw [hcrb]
          have hbase : (S (j + 1)).2[(S j).2.size]? = some (some B) := by rw [hH1]; simp
          have key : ∀ m, j + 1 + m ≤ ops.size → (∀ c, isLoud ops c → j < c → c < j + 1 + m → ¬ befP (ancs ops) j c) → (S (j + 1 + m)).2[(S j).2.size]? = some (some B) := by
            intro m
            induction m with
            | zero => intro _ _; exact hbase
            | succ m ih =>
              intro hm hq
              by_cases hlm : isLoud ops (j + 1 + m)
              · have := st.new j o (j + 1 + m) ho hw hl' hnl2 hlt1 hlm (by omega) (hq _ hlm (by omega) (by omega)) (by omega)
                rw [← Nat.add_assoc, this]; exact hbase
              · rw [← Nat.add_assoc, r.quiet_get hlm (Nat.lt_of_lt_of_le hlt1 (r.mono _ _ (by omega)))]
                exact ih (by omega) fun c h1 h2 h3 => hq c h1 h2 (by omega)
          have := key (max nx (j + 1) - (j + 1)) (by have := hnx.le; omega) (fun c hcl h1 h2 h3 => by
            have h4 := hdesc c h3
            rw [hnx.todo c hcl (by omega)] at h4; cases h4)
          rwa [show j + 1 + (max nx (j + 1) - (j + 1)) = max nx (j + 1) by omega] at this
        obtain ⟨r1, r2⟩ := alloc_at hr hb0 hB0 hs hcr
        have hle := Ren.put_le (l := ⟨w.heap.size, 0, sz, cs'.size⟩) hb0
        refine ⟨fun _ _ => trivial, ?_⟩
        rw [hsem]
        rw [hrun o rfl, Oper.uponIn_value]
        refine close _ _ v' hle (hv _ (Ren.put_same _ _ _)) ?_ r1 (hx.step hle ?_ ?_ rfl rfl rfl (by simp) ?_ r2 ?_ ?_) (fun b h1 h2 => ⟨_, Ren.put_eq (by simp at h2; omega)⟩)
        · intro b l hb
          by_cases eb : b = (S j).2.size
          · subst eb
            exact .inr ⟨j, by simp, hj, Nat.le_refl _, by rw [hH1]; simp⟩
          · exact hdom' b l (by simpa [Ren.put, eb] using hb)
        · intro b l hb
          by_cases eb : b = (S j).2.size
          · subst eb; exact .inr (r.mono 0 j (Nat.zero_le _))
          · exact .inl (by simpa [Ren.put, eb] using hb)
        · exact hx.size
        · intro k hk _; exact heap_alloc_old w _ _ hk
        · intro b l hb h0
          by_cases eb : b = (S j).2.size
          · subst eb; rw [Ren.put_same] at hb; cases hb; exact .inl (Nat.le_refl _)
          · have : ρ b = some l := by simpa [Ren.put, eb] using hb
            rw [h0] at this; cases this
        · exact fun b C _ hC => ⟨C, hC, rfl⟩
    · have hlj : isLoud ops j := ⟨o, ho, hl⟩
      have hjn := hjn hlj
      subst hjn
      have hstep := r.step nx o ho
      unfold stA at hstep
      rw [hw] at hstep
      simp only [if_true] at hstep
      obtain ⟨⟨pv, H2⟩, hop, h2⟩ := map_some hstep
      have hH2 : H2 = (S (nx + 1)).2 := by rw [← h2]
      have hpv : puts P call ops S nx = pv := by simp only [puts, ho, hw, if_true, hop]; rfl
      subst hH2
      obtain ⟨σ, wσ, Tσ, hrσ, htσ, hxσ⟩ := r.worlds hcs hr0 ht0 nx (by omega)
      have hm : ∀ b l, σ b = some l → b < (S nx).2.size := fun b l h => (hrσ.dom b l h).1
      have hS0 : ∀ k, (S 0).2.size ≤ (S k).2.size := fun k => r.mono 0 k (Nat.zero_le _)
      have hHDa : ∀ b B, b < (S nx).2.size → ((HD (fun i => (S i).2) ops.size nx)[b]? = some (some B) ↔ (S nx).2[b]? = some (some B)) := by
        intro b B hb
        rw [HD_get]
        have h1 := hcrle b nx hb (by omega)
        have h3 : b < (S ops.size).2.size := Nat.lt_of_lt_of_le hb (r.mono _ _ (by omega))
        simp only [h3, true_and]
        rw [Nat.max_eq_left h1]
      have hops : ∀ x ∈ o.op.operands, VRel (ρ.lt (S nx).2.size) (evT (S nx).1 x) (a.eval x) := by
        intro x hxm
        have hok := (opA_cases hop).1 x hxm
        have e1 : VRel ρ (evT (S nx).1 x) (a.eval x) := by rw [hev x hxm]; exact TRel.ev ht hr.glob a.defers hok
        exact e1.restrict hm (TRel.ev htσ hrσ.glob [] hok)
      have hσ : ∀ b l, b < (S nx).2.size → ρ b = some l → ∃ l', σ b = some l' := by
        intro b l hb hl
        rcases Nat.lt_or_ge b (S 0).2.size with h1 | h1
        · rcases hx.new b l hl with h3 | h3
          · exact ⟨l, hxσ.le _ _ h3⟩
          · omega
        · exact hxσ.tot b h1 hb
      have hrj : Rel P (ρ.lt (S nx).2.size) (S nx).2 w := by
        refine ⟨fun b B l hB hlb => ?_, fun b c B C l m hB hC hlb hmc h => ?_, fun b l hlb => ?_, fun g hg => let ⟨l, h1, h2⟩ := hr0.glob g hg; ⟨l, Ren.lt_some.2 ⟨Nat.lt_of_lt_of_le (hr0.dom g l h1).1 (hS0 nx), hx.le _ _ h1⟩, h2⟩⟩
        · obtain ⟨hb, hlb⟩ := Ren.lt_some.1 hlb
          obtain ⟨g1, g2, cs, e, fr, g3, g4, g5, g6⟩ := hr.row b B l ((hHDa b B hb).2 hB) hlb
          obtain ⟨l', hl'⟩ := hσ b l hb hlb
          obtain ⟨_, _, cs', e', fr', _, _, _, k6⟩ := hrσ.row b B l' hB hl'
          refine ⟨g1, g2, cs, e, fr, g3, g4, g5, fun i v hv => ?_⟩
          obtain ⟨v', q1, q2⟩ := g6 i v hv
          obtain ⟨v'', _, q4⟩ := k6 i v hv
          exact ⟨v', q1, q2.restrict hm q4⟩
        · obtain ⟨hb, hlb⟩ := Ren.lt_some.1 hlb
          obtain ⟨hc2, hmc⟩ := Ren.lt_some.1 hmc
          exact hr.inj b c B C l m ((hHDa b B hb).2 hB) ((hHDa c C hc2).2 hC) hlb hmc h
        · obtain ⟨hb, hlb⟩ := Ren.lt_some.1 hlb
          exact ⟨hb, (hr.dom b l hlb).2⟩
      refine opA_wp hcs hop hrj hops fun v' w' ρ2 hv hr2 hx2 => ?_
      -- the names behind it
      have hA : ∀ b, b < (S nx).2.size → ρ2 b = ρ b := by
        intro b hb
        cases hρ : ρ b with
        | some l => exact hx2.le _ _ (Ren.lt_some.2 ⟨hb, hρ⟩)
        | none =>
          cases h2' : ρ2 b with
          | none => rfl
          | some l =>
            rcases hx2.new b l h2' with h3 | h3
            · have := (Ren.lt_some.1 h3).2
              rw [hρ] at this; cases this
            · omega
      have hB : ∀ b, (S nx).2.size ≤ b → b < (S (nx + 1)).2.size → ρ b = none := by
        intro b h1 h3
        cases hρ : ρ b with
        | none => rfl
        | some l =>
          exfalso
          rcases hdom b l hρ with h4 | ⟨i, h4, h5, h6, h7⟩
          · have := hS0 nx; omega
          · rcases Nat.lt_trichotomy i nx with h8 | h8 | h8
            · have := r.mono (i + 1) nx h8; omega
            · subst h8; rw [hDj] at h4; cases h4
            · have := r.mono (nx + 1) i h8; omega
      have hmono1 : (S nx).2.size ≤ (S (nx + 1)).2.size := r.mono _ _ (Nat.le_succ _)
      obtain ⟨ρ', hρ'⟩ : ∃ ρ' : Ren, ∀ b, ρ' b = if b < (S (nx + 1)).2.size then ρ2 b else ρ b := ⟨fun b => if b < (S (nx + 1)).2.size then ρ2 b else ρ b, fun _ => rfl⟩
      have hin : ∀ b, b < (S (nx + 1)).2.size → ρ' b = ρ2 b := fun b hb => by rw [hρ', if_pos hb]
      have hout : ∀ b, ¬ b < (S (nx + 1)).2.size → ρ' b = ρ b := fun b hb => by rw [hρ', if_neg hb]
      have hle : ρ.le ρ' := by
        intro b l hl
        by_cases hb : b < (S (nx + 1)).2.size
        · rw [hin b hb]
          by_cases hb2 : b < (S nx).2.size
          · rw [hA b hb2]; exact hl
          · rw [hB b (by omega) hb] at hl; cases hl
        · rw [hout b hb]; exact hl
      have hle2 : ρ2.le ρ' := fun b l hl => by rw [hin b (hr2.dom b l hl).1]; exact hl
      obtain ⟨nx2, n1, n2, n3, n4⟩ := next_loud ops (ops.size - (nx + 1)) (nx + 1) (by omega)
      have hHDc : ∀ b B, b < (S (nx + 1)).2.size → ((HD (fun i => (S i).2) ops.size nx2)[b]? = some (some B) ↔ (S (nx + 1)).2[b]? = some (some B)) := by
        intro b B hb
        rw [HD_get]
        have h1 := hcrle b (nx + 1) hb (by omega)
        have h3 : b < (S ops.size).2.size := Nat.lt_of_lt_of_le hb (r.mono _ _ (by omega))
        simp only [h3, true_and]
        rw [Nat.max_eq_left (by omega), r.quiet_span n1 (fun k hk1 hk2 => n3 k hk1 hk2) hb]
      have hHDd : ∀ b B, ¬ b < (S (nx + 1)).2.size → ((HD (fun i => (S i).2) ops.size nx2)[b]? = some (some B) ↔ (HD (fun i => (S i).2) ops.size nx)[b]? = some (some B)) := by
        intro b B hb
        rw [HD_get, HD_get]
        refine and_congr_right fun h3 => ?_
        obtain ⟨c1, c2, c3⟩ := cr_spec (fun i => (S i).2) r.mono b ops.size h3
        have hcr : nx + 1 < cr (fun i => (S i).2) b ops.size := by
          rcases Nat.lt_or_ge (nx + 1) (cr (fun i => (S i).2) b ops.size) with h4 | h4
          · exact h4
          · exact absurd (Nat.lt_of_lt_of_le c1 (r.mono _ _ h4)) hb
        rw [show max nx (cr (fun i => (S i).2) b ops.size) = cr (fun i => (S i).2) b ops.size by omega]
        rcases Nat.lt_or_ge (cr (fun i => (S i).2) b ops.size) nx2 with h4 | h4
        · rw [show max nx2 (cr (fun i => (S i).2) b ops.size) = nx2 by omega, r.quiet_span (Nat.le_of_lt h4) (fun k hk1 hk2 => n3 k (by omega) hk2) c1]
        · rw [show max nx2 (cr (fun i => (S i).2) b ops.size) = cr (fun i => (S i).2) b ops.size by omega]
      have hWr : ∀ k, Wr (ρ.lt (S nx).2.size) (S nx).2 k → Wr ρ (HD (fun i => (S i).2) ops.size nx) k := by
        rintro k ⟨c, C, l, hC, hro, hlc, rfl⟩
        obtain ⟨hcm, hlc⟩ := Ren.lt_some.1 hlc
        exact ⟨c, C, l, (hHDa c C hcm).2 hC, hro, hlc, rfl⟩
      have hapart : ∀ b B l, ¬ b < (S (nx + 1)).2.size → (HD (fun i => (S i).2) ops.size nx)[b]? = some (some B) → ρ b = some l → ¬ Wr (ρ.lt (S nx).2.size) (S nx).2 l.blk := by
        rintro b B l hb hBb hlb ⟨c, C, l', hC, hro, hlc, he⟩
        obtain ⟨hcm, hlc⟩ := Ren.lt_some.1 hlc
        rcases hr.inj c b C B l' l ((hHDa c C hcm).2 hC) hBb hlc hlb he with h1 | h1
        · subst h1; omega
        · rw [hro] at h1; exact absurd h1.1 (by simp)
      have hcross : ∀ b c B C l m, b < (S (nx + 1)).2.size → ¬ c < (S (nx + 1)).2.size → (S (nx + 1)).2[b]? = some (some B) → (HD (fun i => (S i).2) ops.size nx)[c]? = some (some C) → ρ2 b = some l → ρ c = some m → l.blk = m.blk → B.ro = true ∧ C.ro = true := by
        intro b c B C l m hb hc2 hBb hCc hlb hmc he
        cases hρb : (ρ.lt (S nx).2.size) b with
        | some l1 =>
          have := hx2.le _ _ hρb
          rw [hlb] at this; cases this
          obtain ⟨hbm, hρb'⟩ := Ren.lt_some.1 hρb
          obtain ⟨E, hE, hro⟩ := hx2.live b B hbm hBb
          rcases hr.inj b c E C l m ((hHDa b E hbm).2 hE) hCc hρb' hmc he with h1 | h1
          · subst h1; exact absurd hb hc2
          · exact ⟨by rw [← hro]; exact h1.1, h1.2⟩
        | none =>
          rcases hx2.fresh b l hlb hρb with h1 | h1
          · have := (hr.dom c m hmc).2; omega
          · rw [he] at h1
            exact absurd h1 (hapart c C m hc2 hCc hmc)
      have hRel : Rel P ρ' (HD (fun i => (S i).2) ops.size nx2) w' := by
        refine ⟨fun b B l hBb hlb => ?_, fun b c B C l m hBb hCc hlb hmc he => ?_, fun b l hlb => ?_, hr.glob.mono hle⟩
        · by_cases hb : b < (S (nx + 1)).2.size
          · rw [hin b hb] at hlb
            obtain ⟨g1, g2, cs, e, fr, g3, g4, g5, g6⟩ := hr2.row b B l ((hHDc b B hb).1 hBb) hlb
            exact ⟨g1, g2, cs, e, fr, g3, g4, g5, fun i v hv => by
              obtain ⟨v', q1, q2⟩ := g6 i v hv
              exact ⟨v', q1, q2.mono hle2⟩⟩
          · rw [hout b hb] at hlb
            have hBb' := (hHDd b B hb).1 hBb
            obtain ⟨g1, g2, cs, e, fr, g3, g4, g5, g6⟩ := hr.row b B l hBb' hlb
            refine ⟨g1, g2, cs, e, fr, ?_, g4, g5, fun i v hv => ?_⟩
            · rw [hx2.keep _ (hr.dom b l hlb).2 (hapart b B l hb hBb' hlb)]; exact g3
            · obtain ⟨v', q1, q2⟩ := g6 i v hv
              exact ⟨v', q1, q2.mono hle⟩
        · by_cases hb : b < (S (nx + 1)).2.size
          · rw [hin b hb] at hlb
            by_cases hc2 : c < (S (nx + 1)).2.size
            · rw [hin c hc2] at hmc
              exact hr2.inj b c B C l m ((hHDc b B hb).1 hBb) ((hHDc c C hc2).1 hCc) hlb hmc he
            · rw [hout c hc2] at hmc
              exact .inr (hcross b c B C l m hb hc2 ((hHDc b B hb).1 hBb) ((hHDd c C hc2).1 hCc) hlb hmc he)
          · rw [hout b hb] at hlb
            by_cases hc2 : c < (S (nx + 1)).2.size
            · rw [hin c hc2] at hmc
              have := hcross c b C B m l hc2 hb ((hHDc c C hc2).1 hCc) ((hHDd b B hb).1 hBb) hmc hlb he.symm
              exact .inr ⟨this.2, this.1⟩
            · rw [hout c hc2] at hmc
              exact hr.inj b c B C l m ((hHDd b B hb).1 hBb) ((hHDd c C hc2).1 hCc) hlb hmc he
        · rw [HD_size]
          by_cases hb : b < (S (nx + 1)).2.size
          · rw [hin b hb] at hlb
            exact ⟨Nat.lt_of_lt_of_le hb (r.mono _ _ (by omega)), (hr2.dom b l hlb).2⟩
          · rw [hout b hb] at hlb
            have := hr.dom b l hlb
            rw [HD_size] at this
            exact ⟨this.1, Nat.lt_of_lt_of_le this.2 hx2.wsize⟩
      have hExt : Ext0 ρ0 (S 0).2 w0 ρ' (HD (fun i => (S i).2) ops.size nx2) w' := by
        refine hx.step hle ?_ (by rw [HD_size]; exact hS0 _) hx2.os hx2.tape hx2.output hx2.wsize ?_ ?_ ?_ ?_
        · intro b l hlb
          by_cases hb : b < (S (nx + 1)).2.size
          · rw [hin b hb] at hlb
            by_cases hb2 : b < (S nx).2.size
            · rw [hA b hb2] at hlb; exact .inl hlb
            · exact .inr (Nat.le_trans (hS0 nx) (Nat.le_of_not_lt hb2))
          · rw [hout b hb] at hlb; exact .inl hlb
        · intro k hk hn
          exact hx2.keep k hk fun hh => hn (hWr k hh)
        · rintro k ⟨b, B, l, hBb, hro, hlb, rfl⟩ hk
          by_cases hb : b < (S (nx + 1)).2.size
          · rw [hin b hb] at hlb
            exact hWr _ (hx2.wr _ ⟨b, B, l, (hHDc b B hb).1 hBb, hro, hlb, rfl⟩ hk)
          · rw [hout b hb] at hlb
            exact ⟨b, B, l, (hHDd b B hb).1 hBb, hro, hlb, rfl⟩
        · intro b l hlb h0
          by_cases hb : b < (S (nx + 1)).2.size
          · rw [hin b hb] at hlb
            have : (ρ.lt (S nx).2.size) b = none := by
              unfold Ren.lt
              split
              · exact h0
              · rfl
            rcases hx2.fresh b l hlb this with h1 | h1
            · exact .inl h1
            · exact .inr (hWr _ h1)
          · rw [hout b hb, h0] at hlb; cases hlb
        · intro b B hb hBb
          have hb1 : b < (S (nx + 1)).2.size := Nat.lt_of_lt_of_le hb (hS0 _)
          have hb2 : b < (S nx).2.size := Nat.lt_of_lt_of_le hb (hS0 _)
          obtain ⟨C, hC, e⟩ := hx2.live b B hb2 ((hHDc b B hb1).1 hBb)
          exact ⟨C, (hHDa b C hb2).2 hC, e⟩
      refine hK _ _ ⟨hc', (act_put_defers _ _ _).trans hdf, nx2, ρ', ⟨n2, fun c hcl hlt => ?_, fun c hcl hge => ?_, n4⟩, fun b l hlb => ?_, ?_, hRel, hExt, fun i hi hin2 b h1 h3 => ?_⟩
      · by_cases hcn : c ≤ nx
        · rcases Nat.lt_or_eq_of_le hcn with hlt' | rfl
          · simp [hnx.todo c hcl hlt']
          · simp
        · exact absurd hcl (n3 c (by omega) hlt)
      · have : c ≠ nx := by omega
        simp [hnx.rest c hcl (by omega), this]
      · by_cases hb : b < (S (nx + 1)).2.size
        · rw [hin b hb] at hlb
          by_cases hb2 : b < (S nx).2.size
          · rw [hA b hb2] at hlb; exact hdom' b l hlb
          · exact .inr ⟨nx, by simp, hj, Nat.le_of_not_lt hb2, hb⟩
        · rw [hout b hb] at hlb; exact hdom' b l hlb
      · rw [hadd, hpv]; exact (ht.mono hle).put o.dst (hv.mono hle2) a.defers
      · simp only [Bool.or_eq_true, beq_iff_eq] at hi
        rcases hi with hi | rfl
        · obtain ⟨l, hl⟩ := hcov i hi hin2 b h1 h3
          exact ⟨l, hle _ _ hl⟩
        · obtain ⟨l, hl⟩ := hx2.tot b h1 h3
          exact ⟨l, hle2 _ _ hl⟩
end
end Go.Ab
