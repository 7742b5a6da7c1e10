/- The road to a card of this seat: Range, Sim, Mono, Wp, Ops, Drw, Ops2. Each theorem holds for every input that its own premises speak of. -/
import Derived.Test.YtaaeeiheeihjaaaDoorA3
import Derived.RangeFuncOwn
set_option linter.all false
namespace Go.Ab
section
variable {P : Program}

theorem Rel.notWr {ρ : Ren} {H : Heap} {w : World} (hr : Rel P ρ H w) {k : Nat} {o : Obj} (hk : w.heap[k]? = some o) (ho : o.isCells = false) : ¬ Wr ρ H k := by
  rintro ⟨b, B, l, hB, _, hl, rfl⟩
  obtain ⟨_, _, cs, e, fr, h, _⟩ := hr.row b B l hB hl
  rw [hk] at h; cases h; cases ho
theorem Ext.keeps {ρ ρ' : Ren} {H H' : Heap} {w w' : World} (hx : Ext ρ H w ρ' H' w') (hr : Rel P ρ H w) {k : Nat} {o : Obj} (hk : w.heap[k]? = some o) (ho : o.isCells = false) : w'.heap[k]? = some o :=
  (hx.keep k (Array.getElem?_eq_some_iff.1 hk).1 (hr.notWr hk ho)).trans hk
theorem Rel.putObj {ρ : Ren} {H : Heap} {w : World} (hr : Rel P ρ H w) {k : Nat} {o : Obj} (o' : Obj) (hk : w.heap[k]? = some o) (ho : o.isCells = false) : Rel P ρ H (w.putObj k o') := by
  refine ⟨fun b B l hB hl => ?_, hr.inj, fun b l hl => by have := hr.dom b l hl; simpa using this, hr.glob⟩
  obtain ⟨h1, h2, cs, e, fr, h3, h4⟩ := hr.row b B l hB hl
  have hne : l.blk ≠ k := by
    rintro rfl
    rw [hk] at h3; cases h3; cases ho
  exact ⟨h1, h2, cs, e, fr, by rw [World.putObj_heap_other hne]; exact h3, h4⟩
theorem Rel.allocObj {ρ : Ren} {H : Heap} {w : World} (hr : Rel P ρ H w) (o : Obj) : Rel P ρ H (w.alloc o) := by
  refine ⟨fun b B l hB hl => ?_, hr.inj, fun b l hl => by have := hr.dom b l hl; simp; omega, hr.glob⟩
  obtain ⟨h1, h2, cs, e, fr, h3, h4⟩ := hr.row b B l hB hl
  exact ⟨h1, h2, cs, e, fr, by rw [heap_alloc_old w _ (hr.dom _ _ hl).2]; exact h3, h4⟩
theorem Rel.pushNone {ρ : Ren} {H : Heap} {w : World} (hr : Rel P ρ H w) {l : Loc} (hl : l.blk < w.heap.size) : Rel P (ρ.put H.size l) (H.push Option.none) w := by
  have hle := Ren.put_le (l := l) hr.none
  have key : ∀ b B, (H.push Option.none)[b]? = some (some B) → b ≠ H.size ∧ H[b]? = some (some B) := by
    intro b B hB
    by_cases e : b = H.size
    · subst e; simp at hB
    · rw [Array.getElem?_push, if_neg e] at hB; exact ⟨e, hB⟩
  have key2 : ∀ b m, b ≠ H.size → (ρ.put H.size l) b = some m → ρ b = some m := fun b m e h => by simpa [Ren.put, e] using h
  refine ⟨fun b B m hB hm => ?_, fun b c B C m n hB hC hm hn h => ?_, fun b m hm => ?_, hr.glob.mono hle⟩
  · obtain ⟨e, hB⟩ := key b B hB
    obtain ⟨h1, h2, cs, e, fr, h3, h4, h5, h6⟩ := hr.row b B m hB (key2 b m e hm)
    refine ⟨h1, h2, cs, _, fr, h3, h4, h5, fun i v hv => ?_⟩
    obtain ⟨v', h7, h8⟩ := h6 i v hv
    exact ⟨v', h7, h8.mono hle⟩
  · obtain ⟨e, hB⟩ := key b B hB
    obtain ⟨e', hC⟩ := key c C hC
    exact hr.inj b c B C m n hB hC (key2 b m e hm) (key2 c n e' hn) h
  · by_cases e : b = H.size
    · subst e
      rw [Ren.put_same] at hm; cases hm
      simp; exact hl
    · have := hr.dom b m (key2 b m e hm)
      simp; omega
theorem Ext.pushNone {ρ : Ren} {H : Heap} {w : World} (hr : Rel P ρ H w) (o o' : Obj) : Ext ρ H w (ρ.put H.size ⟨w.heap.size + 1, 0, 0, 0⟩) (H.push Option.none) ((w.alloc o).alloc o') := by
  refine ⟨Ren.put_le hr.none, fun b l hl => ?_, by simp, rfl, rfl, rfl, by simp; omega, fun k hk _ => ?_, ?_, fun b l hl h0 => ?_, fun b B hb hB => ?_, fun b h1 h2 => ?_⟩
  · by_cases e : b = H.size
    · exact .inr (by omega)
    · exact .inl (by simpa [Ren.put, e] using hl)
  · rw [heap_alloc_old _ _ (by simp; omega), heap_alloc_old _ _ hk]
  · rintro k ⟨b, B, l, hB, hro, hl, rfl⟩ hk
    have e : b ≠ H.size := by rintro rfl; simp at hB
    rw [Array.getElem?_push, if_neg e] at hB
    exact ⟨b, B, l, hB, hro, by simpa [Ren.put, e] using hl, rfl⟩
  · by_cases e : b = H.size
    · subst e
      rw [Ren.put_same] at hl; cases hl
      exact .inl (by simp)
    · have : ρ b = some l := by simpa [Ren.put, e] using hl
      rw [h0] at this; cases this
  · have e : b ≠ H.size := by omega
    rw [Array.getElem?_push, if_neg e] at hB
    exact ⟨B, hB, rfl⟩
  · exact ⟨_, Ren.put_eq (by simp at h2; omega)⟩
theorem Ext.putObj {ρ ρ' : Ren} {H H' : Heap} {w w' : World} (hx : Ext ρ H w ρ' H' w') {k : Nat} (hk : w.heap.size ≤ k) (o : Obj) : Ext ρ H w ρ' H' (w'.putObj k o) :=
  ⟨hx.le, hx.new, hx.size, hx.os, hx.tape, hx.output, by simpa using hx.wsize, fun j hj hn => by rw [World.putObj_heap_other (by omega)]; exact hx.keep j hj hn, hx.wr, hx.fresh, hx.live, hx.tot⟩
theorem Ext.around {ρ ρ' : Ren} {H H' : Heap} {w w' : World} {k : Nat} {o o' : Obj} (hx : Ext ρ H (w.putObj k o') ρ' H' w') (hk : w.heap[k]? = some o) : Ext ρ H w ρ' H' (w'.putObj k o) := by
  have hs := hx.wsize
  simp only [World.putObj_size] at hs
  refine ⟨hx.le, hx.new, hx.size, hx.os, hx.tape, hx.output, by simpa using hs, fun j hj hn => ?_, fun j h1 h2 => hx.wr j h1 (by simpa using h2), fun b l h1 h2 => by simpa using hx.fresh b l h1 h2, hx.live, hx.tot⟩
  by_cases e : j = k
  · subst e
    rw [World.putObj_heap_same (by omega), hk]
  · rw [World.putObj_heap_other e, hx.keep j (by simpa using hj) hn, World.putObj_heap_other e]

theorem putAll_rel {ρ : Ren} {T T' : Array Value} (ht : TRel ρ T T') (ps : Array Tmp) {args args' : Array Value} (ha : All2 (VRel ρ) args.toList args'.toList) : TRel ρ (putAll T ps args) ((ps.zip args').foldl (fun t (p, v) => t.setIfInBounds p v) T') := by
  unfold putAll
  have key : ∀ (ps : List Tmp) (x y : List Value), All2 (VRel ρ) x y → ∀ (T T' : Array Value), TRel ρ T T' → TRel ρ ((ps.zip x).foldl (fun t (p, v) => t.setIfInBounds p v) T) ((ps.zip y).foldl (fun t (p, v) => t.setIfInBounds p v) T') := by
    intro ps
    induction ps with
    | nil => intro x y _ T T' h; simpa using h
    | cons p ps ih =>
      intro x y hxy T T' h
      cases hxy with
      | nil => simpa using h
      | cons h1 h2 =>
        simp only [List.zip_cons_cons, List.foldl_cons]
        exact ih _ _ h2 _ _ (h.put (some p) h1 [])
  have := key ps.toList args.toList args'.toList ha T T' ht
  rw [← Array.foldl_toList, ← Array.foldl_toList, Array.toList_zip, Array.toList_zip]
  exact this
end
end Go.Ab
namespace Go.Ab
section
variable {P : Program} {call : CallF} {ops : Array Oper}

theorem trace_spec : ∀ (os : List Oper) (s : Array Value × Heap) (tr : List (Array Value × Heap)), traceA P call ops os s = some tr →
    tr.length = os.length + 1 ∧ tr[0]? = some s ∧ ∀ i o, os[i]? = some o → ∃ a b, tr[i]? = some a ∧ tr[i + 1]? = some b ∧ stA P call ops o a = some b
  | [], s, tr, h => by
    simp [traceA] at h; subst h
    exact ⟨rfl, rfl, fun i o ho => by simp at ho⟩
  | o :: rest, s, tr, h => by
    simp only [traceA] at h
    cases hs : stA P call ops o s with
    | none => simp [hs] at h
    | some s' =>
      simp only [hs] at h
      obtain ⟨tr', h1, rfl⟩ := map_some h
      obtain ⟨k1, k2, k3⟩ := trace_spec rest s' tr' h1
      refine ⟨by simp [k1], rfl, fun i o' ho' => ?_⟩
      cases i with
      | zero =>
        simp at ho'; subst ho'
        exact ⟨s, s', rfl, by simpa using k2, hs⟩
      | succ i =>
        obtain ⟨a, b, q1, q2, q3⟩ := k3 i o' (by simpa using ho')
        exact ⟨a, b, by simpa using q1, by simpa using q2, q3⟩

theorem sameO_eq {o : Option Value} {v : Value} (h : sameO o v = true) : o = some v := by
  cases o with
  | none => simp [sameO] at h
  | some u => rw [sameV_eq u v h]
theorem sameB_eq {a b : Option (Option Blk)} (h : sameB a b = true) : a = b := by
  unfold sameB at h
  split at h
  · rename_i B C
    simp only [Bool.and_eq_true, beq_iff_eq] at h
    obtain ⟨⟨h1, h2⟩, h3⟩ := h
    have := sameL_eq _ _ h1
    cases B; cases C
    simp_all
  · simp at h

theorem run_of (dF : DrawFacts ops) {tr : List (Array Value × Heap)} {T : Array Value} {H : Heap} (h : traceA P call ops ops.toList (T, H) = some tr) (hst : stable P ops tr = true) :
    ∃ S : Nat → Array Value × Heap, Run P call ops S ∧ Stable P call ops S ∧ S 0 = (T, H) ∧ tr.getLast? = some (S ops.size) := by
  obtain ⟨k1, k2, k3⟩ := trace_spec _ _ _ h
  have hlen : tr.length = ops.size + 1 := by simpa using k1
  have hget : ∀ i, i ≤ ops.size → tr[i]? = some ((tr[min i ops.size]?).getD (T, H)) := by
    intro i hi
    rw [Nat.min_eq_left hi]
    have : i < tr.length := by omega
    simp [this]
  refine ⟨fun i => (tr[min i ops.size]?).getD (T, H), ?_, ?_, ?_, ?_⟩
  · refine ⟨fun i o ho => ?_, fun i hi => ?_, fun i hi => ?_⟩
    · have hi : i < ops.size := (Array.getElem?_eq_some_iff.1 ho).1
      obtain ⟨a, b, q1, q2, q3⟩ := k3 i o (by simpa using ho)
      have e1 := hget i (by omega)
      have e2 := hget (i + 1) (by omega)
      rw [q1] at e1; rw [q2] at e2
      simp only [Option.some.injEq] at e1 e2
      show stA P call ops o ((tr[min i ops.size]?).getD (T, H)) = some ((tr[min (i + 1) ops.size]?).getD (T, H))
      rw [← e1, ← e2]; exact q3
    · unfold stable at hst
      simp only [List.all_eq_true, List.mem_range] at hst
      have := hst i hi
      rw [hget i (by omega), hget (i + 1) (by omega)] at this
      have ho : ops[i]? = some ops[i] := by simp [hi]
      rw [ho] at this
      simp only [Bool.and_eq_true, decide_eq_true_eq] at this
      exact this.1
    · show (tr[min i ops.size]?).getD (T, H) = (tr[min ops.size ops.size]?).getD (T, H)
      rw [Nat.min_eq_right hi, Nat.min_self]
  · have key : ∀ j o c, ops[j]? = some o → wantedA ops ((tr[min j ops.size]?).getD (T, H)).1 o = true → loud o.op = false → isLoud ops c → ¬ befP (ancs ops) c j → ¬ befP (ancs ops) j c → c < ops.size →
        beside P o ((tr[min j ops.size]?).getD (T, H)) ((tr[min (j + 1) ops.size]?).getD (T, H)) ((tr[min c ops.size]?).getD (T, H)).2 ((tr[min (c + 1) ops.size]?).getD (T, H)).2 (decide (j < c)) = true := by
      intro j o c ho hw hl ⟨oc, hoc, hlc⟩ h1 h2 hc
      have hj : j < ops.size := (Array.getElem?_eq_some_iff.1 ho).1
      unfold stable at hst
      simp only [List.all_eq_true, List.mem_range] at hst
      have := hst j hj
      rw [hget j (by omega), hget (j + 1) (by omega), ho] at this
      simp only [Bool.and_eq_true, Bool.or_eq_true, Bool.not_eq_true', hw, hl, decide_eq_true_eq, List.all_eq_true, List.mem_range] at this
      rcases this.2 with (h3 | h3) | h3
      · cases h3
      · cases h3
      · have := h3 c hc
        rw [hget c (by omega), hget (c + 1) (by omega), hoc] at this
        simp only [Bool.or_eq_true, Bool.not_eq_true', hlc] at this
        rcases this with ((h4 | h4) | h4) | h4
        · cases h4
        · exact absurd (by simpa [befP] using h4) h1
        · exact absurd (by simpa [befP] using h4) h2
        · exact h4
    refine ⟨fun j o t x a v c ho hw heq hx hld hcl h1 h2 hc => ?_, fun j o c ho hw hl hnl hsz hcl hjc h2 hc => ?_⟩
    · have := key j o c ho hw (by rw [heq]; rfl) hcl h1 h2 hc
      unfold beside at this
      rw [heq] at this
      simp only at this hx hld
      rw [hx] at this
      simp only at this
      rw [hld] at this
      simp only [Bool.and_eq_true, stableAt, Bool.or_eq_true, decide_eq_true_eq] at this
      exact ⟨this.1.imp id sameO_eq, this.2.imp id sameO_eq⟩
    · have := key j o c ho hw hl hcl (fun hb => ?_) h2 hc
      · unfold beside at this
        split at this
        · rename_i t x heq; exact absurd heq (hnl t x)
        · simp only [hjc, decide_true, Bool.true_and, decide_eq_true_eq] at this
          rw [if_pos hsz] at this
          exact sameB_eq this
      · have := dF.lt _ _ hb; omega
  · show (tr[min 0 ops.size]?).getD (T, H) = (T, H)
    rw [Nat.zero_min, k2]; rfl
  · rw [List.getLast?_eq_getElem?, hlen]
    exact hget ops.size (Nat.le_refl _)

theorem draw_any (dF : DrawFacts ops) {S : Nat → Array Value × Heap} (r : Run P call ops S) (st : Stable P call ops S) (hcs : CallSim P call) {ρ0 : Ren} {w0 : World} (hr0 : Rel P ρ0 (S 0).2 w0) {T0' : Array Value} (ht0 : TRel ρ0 (S 0).1 T0') {df : List Deferred} {Q : Exit → Act → World → Prop}
    (hQ : ∀ a w, After P ρ0 (S 0).2 w0 (S ops.size).1 (S ops.size).2 df a w → Q .normal a w) (rd : Option Nat) (nn : Nat) :
    ∀ (fuel : Nat) (listed : Array Bool) (a : Act) (w : World), listed.size = ops.size → (listed.toList.filter (· == false)).length ≤ fuel → Inv P call ops S ρ0 w0 df (fun i => listed.getD i false) a w → wpAnyIn (FW rd) nn P .any ops Q fuel listed a w := by
  -- nothing is ready: all is done
  have hend : ∀ (listed : Array Bool), listed.size = ops.size → ∀ (a : Act) (w : World), Inv P call ops S ρ0 w0 df (fun i => listed.getD i false) a w → Region.ready .any ops listed = [] → Q .normal a w := by
    intro listed hsz a w hi hnil
    refine hQ a w (hi.finish r ?_)
    intro i
    induction i using Nat.strongRecOn with
    | _ i ih =>
      intro hlt
      cases hg : listed.getD i false with
      | true => rfl
      | false =>
        have ho : ops[i]? = some ops[i] := by simp [hlt]
        have : i ∈ Region.ready .any ops listed := mem_ready.2 ⟨by
          have h1 : i < listed.size := by omega
          simp only [Array.getD_eq_getD_getElem?, Array.getElem?_eq_getElem h1, Option.getD_some] at hg ⊢
          exact hg, _, ho, fun e he hb => by
          have := dF.edge i _ ho e he hb
          exact ih e.on this (by omega)⟩
        rw [hnil] at this; cases this
  have hzero : ∀ (listed : Array Bool), listed.size = ops.size → (listed.toList.filter (· == false)).length = 0 → Region.ready .any ops listed = [] := by
    intro listed hsz h0
    cases hrd : Region.ready .any ops listed with
    | nil => rfl
    | cons i rest =>
      have hm : i ∈ Region.ready .any ops listed := by rw [hrd]; exact List.mem_cons_self ..
      obtain ⟨h1, o, ho, _⟩ := mem_ready.1 hm
      have hlt : i < ops.size := (Array.getElem?_eq_some_iff.1 ho).1
      have h2 : i < listed.size := by omega
      have h3 : listed[i] = false := by
        simpa only [Array.getD_eq_getD_getElem?, Array.getElem?_eq_getElem h2, Option.getD_some] using h1
      have h4 := List.eq_nil_of_length_eq_zero h0
      have h5 : false ∈ listed.toList.filter (· == false) := List.mem_filter.2 ⟨by rw [← h3]; exact Array.mem_toList_iff.2 (Array.getElem_mem h2), rfl⟩
      rw [h4] at h5; cases h5
  intro fuel
  induction fuel with
  | zero =>
    intro listed a w hsz hf hi
    have hnil := hzero listed hsz (by omega)
    exact ⟨hnil, hend listed hsz a w hi hnil⟩
  | succ fuel ih =>
    intro listed a w hsz hf hi
    refine ⟨fun hnil => hend listed hsz a w hi hnil, fun j hj => ?_⟩
    obtain ⟨h1, o, ho, hdep⟩ := mem_ready.1 hj
    have hlt : j < ops.size := (Array.getElem?_eq_some_iff.1 ho).1
    have h2 : j < listed.size := by omega
    have h3 : listed[j] = false := by
      simpa only [Array.getD_eq_getD_getElem?, Array.getElem?_eq_getElem h2, Option.getD_some] using h1
    have h3' : listed.getD j false = false := by
      simp only [Array.getD_eq_getD_getElem?, Array.getElem?_eq_getElem h2, Option.getD_some]; exact h3
    refine hi.step dF r st hcs hr0 ht0 ho h3' hdep fun a' w' hi' => ih _ a' w' (by simpa using hsz) ?_ ?_
    · have hl : (listed.setIfInBounds j true).toList = listed.toList.set j true := by simp
      rw [hl]
      have key : ∀ (l : List Bool) (k : Nat), l[k]? = some false → ((l.set k true).filter (· == false)).length + 1 = (l.filter (· == false)).length := by
        intro l
        induction l with
        | nil => intro k hk; simp at hk
        | cons b l ih =>
          intro k hk
          cases k with
          | zero => simp at hk; subst hk; simp
          | succ k =>
            simp at hk
            have := ih k hk
            simp only [List.set_cons_succ, List.filter_cons]
            split
            · simp only [List.length_cons]; omega
            · exact this
      have := key listed.toList j (by simp [h2, h3])
      omega
    · have : (fun i => (listed.setIfInBounds j true).getD i false) = fun i => listed.getD i false || i == j := by
        funext i
        by_cases hij : i = j
        · subst hij
          simp [Array.getD_eq_getD_getElem?, h2]
        · have : (i == j) = false := by simpa using hij
          rw [this, Bool.or_false]
          simp only [Array.getD_eq_getD_getElem?, Array.getElem?_setIfInBounds_ne (Ne.symm hij)]
      rw [this]; exact hi'

theorem region_draw (hm : P.follows .mixedOrders = true) (hcs : CallSim P call) {id : Nat} {T T' : Array Value} {H H' : Heap} (h : regD P call ops T H = some (T', H')) {ρ : Ren} {w : World} {a : Act} (hr : Rel P ρ H w) (ht : TRel ρ T a.tmps) {Q : Exit → Act → World → Prop}
    (hQ : ∀ a' w', After P ρ H w T' H' a.defers a' w' → Q .normal a' w') (rd : Option Nat) (nn : Nat) : (Code.region id ops true).wpIn (FW rd) nn P Q a w := by
  unfold regD at h
  cases htr : traceA P call ops ops.toList (T, H) with
  | none => simp [htr] at h
  | some tr =>
    simp only [htr] at h
    split at h
    rotate_left
    · simp at h
    rename_i hok
    simp only [Bool.and_eq_true] at hok
    have dF := draw_facts hok.1
    obtain ⟨S, r, st, hS0, hlast⟩ := run_of dF htr hok.2
    rw [h] at hlast
    have hSn : S ops.size = (T', H') := (Option.some.inj hlast).symm
    have hr' : Rel P ρ (S 0).2 w.drew := by rw [hS0]; exact hr.drew
    have ht' : TRel ρ (S 0).1 a.tmps := by rw [hS0]; exact ht
    refine wpIn_region_any hm (draw_any dF r st hcs hr' ht' (df := a.defers) (fun a' w' ha => hQ a' w' ?_) rd nn ops.size _ a w.drew (by simp) ?_ ?_)
    · rw [hS0, hSn] at ha
      obtain ⟨h1, ρ', h2, h3, h4⟩ := ha
      exact ⟨h1, ρ', h2, h3, (Ext.drew ρ H w).trans h4⟩
    · have := List.length_filter_le (· == false) (Array.replicate ops.size false).toList
      simp at this ⊢
    · have := Inv.start r hr' ht'
      have e : (fun i => (Array.replicate ops.size false).getD i false) = fun _ => false := by
        funext i
        simp only [Array.getD_eq_getD_getElem?, Array.getElem?_replicate]
        split <;> rfl
      rw [e]; exact this

def resA (P : Program) (T : Array Value) (H : Heap) : ResultVar → Option Value
  | .tmp t => some (T.getD t undef)
  | .cell a t => match T.getD a undef with
    | .pointer (some ad) => loadA P H t ad
    | _ => none
def resS (T' : Array Value) : ResultVar → Sem Value
  | .tmp t => pure (T'.getD t undef)
  | .cell a t => do loadVar t (← asAddr (T'.getD a undef))
theorem resultsA_eq (fn : Func) (T : Array Value) (H : Heap) : resultsA P fn T H = match fn.results.toList.mapM (resA P T H) with
    | some vs => match vs with
      | [v] => some v
      | _ => if (vs.all notTuple) = true then some (.tuple vs.toArray) else none
    | none => none := rfl
theorem results_eq (fn : Func) (T' : Array Value) : results fn T' = (do let vs ← fn.results.mapM (resS T'); pure (if h : vs.size = 1 then vs[0] else .tuple vs)) := rfl

theorem VRel.toOne {ρ : Ren} {v v' : Value} (h : VRel ρ v v') (hn : notTuple v = true) : VRel1 ρ v v' := by
  cases h with
  | one h => exact h
  | tuple h => simp [notTuple] at hn
theorem results_rel {ρ : Ren} {H : Heap} {w : World} (hr : Rel P ρ H w) {fn : Func} {T T' : Array Value} (ht : TRel ρ T T') {v : Value} (h : resultsA P fn T H = some v) :
    ∃ v', VRel ρ v v' ∧ (results fn T').run P w = .ok v' w := by
  rw [resultsA_eq] at h
  cases hvs : fn.results.toList.mapM (resA P T H) with
  | none => simp [hvs] at h
  | some vs =>
  simp only [hvs] at h
  have key : ∀ (l : List ResultVar) (vs : List Value), l.mapM (resA P T H) = some vs → ∃ us, All2 (VRel ρ) vs us ∧ (l.mapM (resS T')).run P w = .ok us w := by
    intro l
    induction l with
    | nil => intro vs h; simp at h; subst h; exact ⟨[], .nil, by simp⟩
    | cons x l ih =>
      intro vs h
      simp only [List.mapM_cons, Option.bind_eq_bind, Option.bind_eq_some_iff] at h
      obtain ⟨b, hb, r', hr', h⟩ := h
      simp at h; subst h
      obtain ⟨us, h1, h2⟩ := ih r' hr'
      have hx : ∃ u, VRel ρ b u ∧ (resS T' x).run P w = .ok u w := by
        cases x with
        | tmp t =>
          simp only [resA, Option.some.injEq] at hb
          subst hb
          exact ⟨_, ht.getD t, rfl⟩
        | cell ad t =>
          simp only [resA] at hb
          split at hb
          · rename_i a0 ha
            have e1 := ht.getD ad
            rw [ha] at e1
            obtain ⟨l0, hl0, e2⟩ := e1.inv_ptr
            obtain ⟨u, hu, hrun⟩ := load_rel hr hl0 hb
            refine ⟨u, hu, ?_⟩
            simp only [resS]
            rw [e2]
            simp [asAddr, hrun]
          · simp at hb
      obtain ⟨u, hu, hrun⟩ := hx
      refine ⟨u :: us, .cons hu h1, ?_⟩
      simp only [List.mapM_cons, Sem.run_bind, Sem.run_pure, Result.andThen_ok, h2, hrun]
  obtain ⟨us, h1, h2⟩ := key _ _ hvs
  have h3 : (fn.results.mapM (resS T')).run P w = .ok us.toArray w := by
    rw [Array.mapM_eq_mapM_toList, Sem.run_map, h2]; rfl
  rw [results_eq]
  cases h1 with
  | nil =>
    simp at h; subst h
    exact ⟨.tuple #[], .tuple .nil, by rw [Sem.run_bind, h3]; rfl⟩
  | cons ha hb =>
    rename_i a b x y
    cases hb with
    | nil =>
      simp at h; subst h
      exact ⟨b, ha, by rw [Sem.run_bind, h3]; rfl⟩
    | cons hc hd =>
      rename_i c d x' y'
      simp only at h
      split at h
      rotate_left
      · simp at h
      rename_i hn
      simp at h; subst h
      refine ⟨.tuple (b :: d :: y').toArray, .tuple ?_, by rw [Sem.run_bind, h3]; rfl⟩
      have hall : All2 (VRel ρ) (a :: c :: x') (b :: d :: y') := .cons ha (.cons hc hd)
      have : ∀ {l l' : List Value}, All2 (VRel ρ) l l' → l.all notTuple = true → All2 (VRel1 ρ) l l' := by
        intro l l' hl
        induction hl with
        | nil => intro _; exact .nil
        | cons h t ih =>
          intro hn
          simp only [List.all_cons, Bool.and_eq_true] at hn
          exact .cons (h.toOne hn.1) (ih hn.2)
      exact this hall hn

def markOf (D : Nat) : Deferred := { target := .collected D, args := #[] }
def AfterM (P : Program) (ρ : Ren) (H : Heap) (w : World) (T' : Array Value) (H' : Heap) (df : List Deferred) (a' : Act) (w' : World) : Prop :=
  (∃ ds : List Nat, a'.defers = ds.map markOf ++ df ∧ ds.Nodup ∧ ∀ D ∈ ds, w.heap.size ≤ D ∧ w'.heap[D]? = some (.deferred (some []))) ∧
    ∃ ρ', TRel ρ' T' a'.tmps ∧ Rel P ρ' H' w' ∧ Ext ρ H w ρ' H' w'
theorem After.toM {ρ : Ren} {H H' : Heap} {w w' : World} {T' : Array Value} {df : List Deferred} {a' : Act} (h : After P ρ H w T' H' df a' w') : AfterM P ρ H w T' H' df a' w' :=
  ⟨⟨[], h.1, List.nodup_nil, fun _ h => by cases h⟩, h.2⟩
theorem AfterM.refl {ρ : Ren} {H : Heap} {w : World} {T : Array Value} {a : Act} (hr : Rel P ρ H w) (ht : TRel ρ T a.tmps) : AfterM P ρ H w T H a.defers a w :=
  ⟨⟨[], rfl, List.nodup_nil, fun _ h => by cases h⟩, ρ, ht, hr, Ext.refl _ _ _⟩
theorem AfterM.trans {ρ ρ1 : Ren} {H H1 H2 : Heap} {w w1 w2 : World} {T2 : Array Value} {df df1 : List Deferred} {a2 : Act}
    (h1 : ∃ ds : List Nat, df1 = ds.map markOf ++ df ∧ ds.Nodup ∧ ∀ D ∈ ds, w.heap.size ≤ D ∧ w1.heap[D]? = some (.deferred (some []))) (hr1 : Rel P ρ1 H1 w1) (hx1 : Ext ρ H w ρ1 H1 w1)
    (h2 : AfterM P ρ1 H1 w1 T2 H2 df1 a2 w2) : AfterM P ρ H w T2 H2 df a2 w2 := by
  obtain ⟨ds1, e1, n1, k1⟩ := h1
  obtain ⟨⟨ds2, e2, n2, k2⟩, ρ2, ht2, hr2, hx2⟩ := h2
  refine ⟨⟨ds2 ++ ds1, by rw [e2, e1]; simp, List.nodup_append.2 ⟨n2, n1, fun a ha b hb => ?_⟩, fun D hD => ?_⟩, ρ2, ht2, hr2, hx1.trans hx2⟩
  · have := (k2 a ha).1
    have := (Array.getElem?_eq_some_iff.1 (k1 b hb).2).1
    omega
  · rcases List.mem_append.1 hD with h | h
    · exact ⟨Nat.le_trans hx1.wsize (k2 D h).1, (k2 D h).2⟩
    · exact ⟨(k1 D h).1, hx2.keeps hr1 (k1 D h).2 rfl⟩

theorem leave_marks {fn : Func} {T' tmps : Array Value} {ρ0 ρ : Ren} {H0 H' : Heap} {w0 : World} {v : Value} (hres : resultsA P fn T' H' = some v) (ht : TRel ρ T' tmps) {F : Fence} {n : Nat} :
    ∀ (ds : List Nat) (w : World), ds.Nodup → (∀ D ∈ ds, w0.heap.size ≤ D ∧ w.heap[D]? = some (.deferred (some []))) → Rel P ρ H' w → Ext ρ0 H0 w0 ρ H' w →
      LeavesInM F n P fn tmps (fun e w' => ∃ v' ρ', e = .returned v' ∧ VRel ρ' v v' ∧ Rel P ρ' H' w' ∧ Ext ρ0 H0 w0 ρ' H' w') (ds.map markOf) .returning w
  | [], w, _, _, hr, hx => by
    obtain ⟨v', hv, hrun⟩ := results_rel hr ht hres
    exact ⟨v', hrun, v', ρ, rfl, hv, hr, hx⟩
  | D :: ds, w, hn, hk, hr, hx => by
    obtain ⟨h1, h2⟩ := hk D (List.mem_cons_self ..)
    have hn' := List.nodup_cons.1 hn
    refine ⟨by simp, .inl ⟨D, _, rfl, run_takeDeferred h2, leave_marks hres ht ds _ hn'.2 (fun E hE => ?_) (hr.putObj _ h2 rfl) (hx.putObj h1 _)⟩⟩
    have hne : E ≠ D := by rintro rfl; exact hn'.1 hE
    obtain ⟨k1, k2⟩ := hk E (List.mem_cons_of_mem _ hE)
    exact ⟨k1, by rw [World.putObj_heap_other hne]; exact k2⟩

def exitOf : AExit → Exit
  | .normal => .normal
  | .exit id => .exit id
  | .ret => .ret

def ExecOk (P : Program) (call : CallF) (n : Nat) (c : Code) : Prop :=
  ∀ {K : Ren → World → Prop} {m : Mode} {r : Option Nat}, Stays P K → YOk P K m r → ∀ {T T' : Array Value} {H H' : Heap} {e : AExit}, execA P call n m c T H = some (e, T', H') →
    ∀ {ρ : Ren} {w : World} {a : Act}, Rel P ρ H w → K ρ w → TRel ρ T a.tmps → ∀ {Q : Exit → Act → World → Prop},
    (∀ a' w', AfterM P ρ H w T' H' a.defers a' w' → Q (exitOf e) a' w') → ∀ nn, c.wpIn (FW r) nn P Q a w

theorem loop_rounds {c : Code} {N : Nat} (ih : ∀ m, m < N → ExecOk P call m c) {K : Ren → World → Prop} {m : Mode} {r : Option Nat} (hst : Stays P K) (hy : YOk P K m r) (nn : Nat) : ∀ (n : Nat), n ≤ N → ∀ {T T' : Array Value} {H H' : Heap} {e : AExit}, execA P call n m (.loop c) T H = some (e, T', H') →
    ∀ {ρ : Ren} {w : World} {a : Act}, Rel P ρ H w → K ρ w → TRel ρ T a.tmps → ∀ {Q : Exit → Act → World → Prop},
    (∀ a' w', AfterM P ρ H w T' H' a.defers a' w' → Q (exitOf e) a' w') → Code.roundsIn (FW r) nn P c Q n a w
  | 0, _, T, T', H, H', e, h, ρ, w, a, hr, hk, ht, Q, hQ => by simp [execA] at h
  | n + 1, hn, T, T', H, H', e, h, ρ, w, a, hr, hk, ht, Q, hQ => by
    simp only [execA] at h
    rw [roundsIn_succ]
    split at h
    · rename_i T1 H1 h1
      refine ih n (by omega) hst hy h1 hr hk ht (fun a1 w1 ha1 => ?_) nn
      obtain ⟨hd, ρ1, ht1, hr1, hx1⟩ := ha1
      exact loop_rounds ih hst hy nn n (by omega) h hr1 (hst _ _ _ _ _ _ hr hx1 hk) ht1 fun a2 w2 ha2 => hQ a2 w2 (AfterM.trans hd hr1 hx1 ha2)
    · rename_i hne
      refine ih n (by omega) hst hy h hr hk ht (fun a1 w1 ha1 => ?_) nn
      cases e with
      | normal => exact absurd h (hne _ _)
      | exit id => exact hQ a1 w1 ha1
      | ret => exact hQ a1 w1 ha1

theorem callFunc_run {f : FuncId} {fn : Func} {c : Code} (hf : P.funcs[f]? = some fn) (hn : (fn.name == "runtime.NumGoroutine") = false) (hb : fn.body = some c) (args : Array Value) (w : World) : (callFunc f args).run P w = .ok (.enter f args) w := by
  unfold callFunc
  simp [hf, hb]
  simpa using hn

theorem frame_rel {ρ : Ren} {fn : Func} {args args' : Array Value} (h : All2 (VRel ρ) args.toList args'.toList) : TRel ρ (frameA fn args) (args' ++ Array.replicate (fn.ntmps - args'.size) undef) := by
  have hl : args.size = args'.size := by simpa using h.length
  unfold frameA TRel
  rw [hl]
  simp only [Array.toList_append]
  exact h.append (All2.refl fun a ha => by simp at ha; rw [ha.2]; exact VRel.undef ρ)

theorem body_calls {n : Nat} {f : FuncId} {fn : Func} {c : Code} (ih : ExecOk P call n c) (hf : P.funcs[f]? = some fn) (hb : fn.body = some c) {K : Ren → World → Prop} {m : Mode} (hst : Stays P K) (hy : YOk P K m none)
    {args args' T1 : Array Value} {H H1 : Heap} {e : AExit} (hex : execA P call n m c (frameA fn args) H = some (e, T1, H1)) (hne : ∀ id, e ≠ .exit id) {v : Value} (hres : resultsA P fn T1 H1 = some v)
    {ρ : Ren} {w : World} (hr : Rel P ρ H w) (hk : K ρ w) (hargs : All2 (VRel ρ) args.toList args'.toList) (nn : Nat) :
    CallsIn (FW none) nn P f args' w fun e w' => ∃ v' ρ', e = .returned v' ∧ VRel ρ' v v' ∧ Rel P ρ' H1 w' ∧ Ext ρ H w ρ' H1 w' := by
  refine callsIn_of_wp_marks hf hb trivial (ih hst hy hex hr hk (frame_rel hargs) (fun a' w' ha => ?_) nn)
  obtain ⟨⟨ds, hd, hn, hk'⟩, ρ', ht', hr', hx⟩ := ha
  have key := leave_marks (F := FW none) (n := nn) hres ht' ds w' hn hk' hr' hx
  simp only [List.append_nil] at hd
  cases e with
  | normal => show LeavesInM _ _ _ _ _ _ _ _ _; rw [hd]; exact key
  | exit id => exact absurd rfl (hne id)
  | ret => show LeavesInM _ _ _ _ _ _ _ _ _; rw [hd]; exact key

theorem range_wp {n : Nat} (ih : ∀ c, ExecOk P call n c) {f : Operand} {ps : Array Tmp} {asg body : Code} {T T' : Array Value} {H H' : Heap} {e : AExit} (h : execA P call (n + 1) .fn (.rangeFunc f ps asg body) T H = some (e, T', H'))
    {ρ : Ren} {w : World} {a : Act} (hr : Rel P ρ H w) (ht : TRel ρ T a.tmps) {Q : Exit → Act → World → Prop} (hQ : ∀ a' w', AfterM P ρ H w T' H' a.defers a' w' → Q (exitOf e) a' w') (nn : Nat) :
    (Code.rangeFunc f ps asg body).wpIn (FW none) nn P Q a w := by
  simp only [execA] at h
  split at h
  rotate_left
  · simp at h
  rename_i hok
  split at h
  rotate_left
  · simp at h
  rename_i g captured hf
  split at h
  rotate_left
  · simp at h
  rename_i fn hfn
  split at h
  · simp at h
  rename_i hname
  split at h
  rotate_left
  · simp at h
  rename_i c hb
  split at h
  · simp at h
  rotate_left
  · simp at h
  rename_i e1 T1 H1 hne hex
  split at h
  rotate_left
  · simp at h
  rename_i v hres
  simp only [Option.some.injEq, Prod.mk.injEq] at h
  obtain ⟨rfl, rfl, rfl⟩ := h
  have hname' : (fn.name == "runtime.NumGoroutine") = false := by simpa using hname
  have e1 := TRel.ev ht hr.glob a.defers hok
  rw [hf] at e1
  obtain ⟨first', captured', e2, h1, h2⟩ := e1.inv_func
  have e3 : first' = #[] := by
    have := h1.length
    simp at this
    exact Array.eq_empty_of_size_eq_zero this.symm
  subst e3
  refine wpIn_rangeFunc ?_
  intro fn0 _
  obtain ⟨rec, hrec⟩ : ∃ rec : LoopState → Loop, rec = fun st => { state := st, pending := none, fn := fn0, tmps := a.tmps, params := ps, assign := asg, body, defers := w.heap.size } := ⟨_, rfl⟩
  obtain ⟨W1, hW1⟩ : ∃ W1, (w.alloc (.deferred (some []))).alloc (.loop (rec .ready)) = W1 := ⟨_, rfl⟩
  have hL1 : W1.heap[w.heap.size + 1]? = some (.loop (rec .ready)) := by
    rw [← hW1]; have := World.alloc_heap_new (w.alloc (.deferred (some []))) (.loop (rec .ready)); rwa [World.size_alloc] at this
  have hK1 : W1.heap[w.heap.size]? = some (.deferred (some [])) := by
    rw [← hW1, heap_alloc_old _ _ (by simp)]; exact World.alloc_heap_new w _
  have hr1 : Rel P (ρ.put H.size ⟨w.heap.size + 1, 0, 0, 0⟩) (H.push Option.none) W1 := by
    rw [← hW1]; exact ((hr.allocObj _).allocObj _).pushNone (by simp)
  have hx1 : Ext ρ H w (ρ.put H.size ⟨w.heap.size + 1, 0, 0, 0⟩) (H.push Option.none) W1 := by
    rw [← hW1]; exact Ext.pushNone hr _ _
  generalize hρ1 : ρ.put H.size ⟨w.heap.size + 1, 0, 0, 0⟩ = ρ1 at *
  have hb1 : ρ1 H.size = some ⟨w.heap.size + 1, 0, 0, 0⟩ := by rw [← hρ1]; exact Ren.put_same _ _ _
  have hst : Stays P (fun ρ' w' => ρ1.le ρ' ∧ w'.heap[w.heap.size + 1]? = some (.loop (rec .ready))) := fun σ H w σ' H' w' hr hx hk =>
    ⟨fun b l h => hx.le _ _ (hk.1 b l h), hx.keeps hr hk.2 rfl⟩
  refine ⟨w.heap.size + 1, [markOf w.heap.size], W1, { target := .fn (.func g) captured', args := #[.func (.yield (w.heap.size + 1)) #[] #[]] }, W1, g,
    #[.func (.yield (w.heap.size + 1)) #[] #[]] ++ captured', W1, ?_, ?_, fun _ _ => trivial, ?_, fun h => by simp [FW, Fence.wide] at h, ?_⟩
  · rw [← hW1, hrec]; exact run_enterLoop_outer _ _ _ _ _
  · have e4 : a.eval f = .func (.func g) #[] captured' := e2
    simp only [resolve, e4]
    simp [go_sem]
  · simp [invoke, go_sem, callFunc_run hfn hname' hb]
  · generalize hmd : Mode.iter _ = md at hex
    have hy : YOk P (fun ρ' w' => ρ1.le ρ' ∧ w'.heap[w.heap.size + 1]? = some (.loop (rec .ready))) md none := by
      subst hmd
      refine ⟨rfl, ?_⟩
      -- the rounds
      intro b args Ha v1 Hb hyl σ u args' l hru hku hlb hargs
      simp only [roundYl] at hyl
      split at hyl
      rotate_left
      · simp at hyl
      rename_i hbs
      obtain ⟨rfl, hsz⟩ := hbs
      split at hyl
      rotate_left
      · simp at hyl
      rename_i T2 H2 ha2
      split at hyl
      rotate_left
      · simp at hyl
      rename_i T3 H3 ha3
      simp only [Option.some.injEq, Prod.mk.injEq] at hyl
      obtain ⟨rfl, rfl⟩ := hyl
      have hl2 := hku.1 _ _ hb1
      rw [hlb] at hl2; cases hl2
      have hsz' : args'.size = ps.size := by
        have := hargs.length
        simp at this; omega
      refine ⟨fn0, _, asg, body, by have := run_yield (P := P) (args := args') hku.2 (by rw [hrec]; exact hsz'); rw [hrec] at this; exact this, fun n2 => ?_⟩
      have htT : TRel σ T a.tmps := ht.mono fun b l h => hku.1 _ _ (hx1.le _ _ h)
      have hst0 : Stays P (fun _ _ => True) := fun _ _ _ _ _ _ _ _ _ => trivial
      refine roundIn_of_wpIn trivial (ih asg (K := fun _ _ => True) (m := .round) (r := some (w.heap.size + 1)) hst0 trivial ha2 hru trivial (putAll_rel htT ps hargs) (fun a3 w3 h3 => ?_) n2)
      obtain ⟨_, σ3, ht3, hr3, hx3⟩ := h3
      have hl3 := hx3.keeps hru hku.2 rfl
      refine ⟨_, run_beginRound hl3 (by rw [hrec]), ?_⟩
      have hlt : w.heap.size + 1 < w3.heap.size := (Array.getElem?_eq_some_iff.1 hl3).1
      have hr4 : Rel P σ3 H2 (w3.putObj (w.heap.size + 1) (.loop { rec .ready with state := .busy })) := hr3.putObj _ hl3 rfl
      refine ih body (K := fun _ _ => True) (m := .round) (r := some (w.heap.size + 1)) hst0 trivial ha3 hr4 trivial ht3 (fun a5 w5 h5 => ?_) n2
      obtain ⟨_, σ5, ht5, hr5, hx5⟩ := h5
      have hl5 := hx5.keeps hr4 (World.putObj_heap_same hlt) rfl
      have hend := run_endRound (P := P) none hl5
      have hback : (Obj.loop { { rec .ready with state := .busy } with state := if (none : Option Code).isNone then .ready else .done, pending := none }) = .loop (rec .ready) := by rw [hrec]; rfl
      rw [hback] at hend
      exact ⟨_, _, hend, _, σ5, rfl, VRel.of_flat rfl, hr5.putObj _ hl5 rfl, hx3.trans (hx5.around hl3)⟩
    have hargs1 : All2 (VRel ρ1) (#[Value.func (.yield H.size) #[] #[]] ++ captured).toList (#[Value.func (.yield (w.heap.size + 1)) #[] #[]] ++ captured').toList := by
      simp only [Array.toList_append]
      exact All2.append (.cons (.one (.cell (.yield hb1))) .nil) (Base.toVRel (h2.mono fun _ _ hb => hb.mono hx1.le))
    have key := body_calls (ih c) hfn hb hst hy hex hne hres hr1 ⟨fun _ _ h => h, hL1⟩ hargs1 (nn - 1)
    refine key.mono ?_
    rintro e' w' ⟨v', ρ', rfl, hv, hr', hx⟩
    have hl' := hx.keeps hr1 hL1 rfl
    have hk' := hx.keeps hr1 hK1 rfl
    refine ⟨none, _, by have := run_endLoop (P := P) hl' (by rw [hrec]; simp); rw [hrec] at this; exact this, ?_⟩
    refine hQ _ _ ⟨⟨[w.heap.size], rfl, by simp, fun D hD => ?_⟩, ρ', ht.mono (fun b l h => hx.le _ _ (hx1.le _ _ h)), hr'.putObj _ hl' rfl, (hx1.trans hx).putObj (by omega) _⟩
    simp only [List.mem_singleton] at hD
    subst hD
    exact ⟨Nat.le_refl _, by rw [World.putObj_heap_other (by omega)]; exact hk'⟩

theorem exec_wp (hm : P.follows .mixedOrders = true) (hcs : CallSim P call) : ∀ (n : Nat) (c : Code), ExecOk P call n c := by
  intro n
  induction n using Nat.strongRecOn with
  | _ n ih =>
  intro c K m r hst hy T T' H H' e h ρ w a hr hk ht Q hQ nn
  cases n with
  | zero => simp [execA] at h
  | succ n =>
    cases c with
    | skip =>
      simp [execA] at h
      obtain ⟨rfl, rfl, rfl⟩ := h
      exact wpIn_skip (hQ a w (AfterM.refl hr ht))
    | label l =>
      simp [execA] at h
      obtain ⟨rfl, rfl, rfl⟩ := h
      exact wpIn_label (hQ a w (AfterM.refl hr ht))
    | exit id =>
      simp [execA] at h
      obtain ⟨rfl, rfl, rfl⟩ := h
      exact wpIn_exit (hQ a w (AfterM.refl hr ht))
    | ret =>
      simp [execA] at h
      obtain ⟨rfl, rfl, rfl⟩ := h
      exact wpIn_ret (hQ a w (AfterM.refl hr ht))
    | region id ops draw =>
      simp only [execA] at h
      obtain ⟨⟨T1, H1⟩, h1, h2⟩ := map_some h
      simp at h2
      obtain ⟨rfl, rfl, rfl⟩ := h2
      cases draw with
      | true => exact region_draw hm hcs (by simpa using h1) hr ht (fun a' w' ha => hQ a' w' ha.toM) r nn
      | false =>
        refine wpIn_region ?_
        rw [List.range_eq_range']
        exact region_wp hcs hst hy ops.size 0 (by omega) (by simpa using h1) hr hk ht (fun a' w' ha => hQ a' w' ha.toM)
    | seq x y =>
      simp only [execA] at h
      refine wpIn_seq ?_
      split at h
      · rename_i T1 H1 h1
        refine ih n (Nat.lt_succ_self n) x hst hy h1 hr hk ht (fun a1 w1 ha1 => ?_) nn
        obtain ⟨hd, ρ1, ht1, hr1, hx1⟩ := ha1
        exact ih n (Nat.lt_succ_self n) y hst hy h hr1 (hst _ _ _ _ _ _ hr hx1 hk) ht1 (fun a2 w2 ha2 => hQ a2 w2 (AfterM.trans hd hr1 hx1 ha2)) nn
      · rename_i hne
        refine ih n (Nat.lt_succ_self n) x hst hy h hr hk ht (fun a1 w1 ha1 => ?_) nn
        cases e with
        | normal => exact absurd h (hne _ _)
        | exit id => exact hQ a1 w1 ha1
        | ret => exact hQ a1 w1 ha1
    | cond c x y =>
      simp only [execA] at h
      split at h
      rotate_left
      · simp at h
      rename_i hok
      split at h
      · rename_i t hc
        have := TRel.ev ht hr.glob a.defers hok
        rw [hc] at this
        exact wpIn_cond this.inv_bool (ih n (Nat.lt_succ_self n) _ hst hy h hr hk ht hQ nn)
      · simp at h
    | block id c =>
      simp only [execA] at h
      refine wpIn_block ?_
      split at h
      · rename_i id' T1 H1 h1
        split at h
        · rename_i hid
          simp at h
          obtain ⟨rfl, rfl, rfl⟩ := h
          refine ih n (Nat.lt_succ_self n) c hst hy h1 hr hk ht (fun a1 w1 ha1 => ?_) nn
          simp only [exitOf, Exit.inBlock, hid, if_true]
          exact hQ a1 w1 ha1
        · rename_i hid
          simp at h
          obtain ⟨rfl, rfl, rfl⟩ := h
          refine ih n (Nat.lt_succ_self n) c hst hy h1 hr hk ht (fun a1 w1 ha1 => ?_) nn
          simp only [exitOf, Exit.inBlock, hid, if_false]
          exact hQ a1 w1 ha1
      · rename_i hne
        refine ih n (Nat.lt_succ_self n) c hst hy h hr hk ht (fun a1 w1 ha1 => ?_) nn
        cases e with
        | normal => exact hQ a1 w1 ha1
        | exit id' => exact absurd h (hne _ _ _)
        | ret => exact hQ a1 w1 ha1
    | loop c =>
      exact wpIn_loop_rounds (n + 1) (loop_rounds (fun m hm' => ih m (by omega) c) hst hy nn (n + 1) (Nat.le_refl _) h hr hk ht hQ)
    | scope _ => simp [execA] at h
    | goto _ => simp [execA] at h
    | rangeFunc f ps asg body =>
      cases m with
      | fn =>
        have hr0 : r = none := hy
        subst hr0
        exact range_wp (fun c => ih n (Nat.lt_succ_self n) c) h hr ht hQ nn
      | round => simp [execA] at h
      | iter yl => simp [execA] at h
    | refuse _ => simp [execA] at h

theorem call_sim (hm : P.follows .mixedOrders = true) {prim : CallF} (hp : CallSim P prim) : ∀ n, CallSim P (callA P prim n)
  | 0 => hp
  | n + 1 => by
    intro f args H v H' h ρ w args' hr hargs
    simp only [callA] at h
    split at h
    · rename_i r hpr
      cases h
      exact hp f args H v H' hpr ρ w args' hr hargs
    · split at h
      rotate_left
      · simp at h
      rename_i fn hf
      split at h
      · simp at h
      rename_i hname
      split at h
      rotate_left
      · simp at h
      rename_i c hb
      have hname' : (fn.name == "runtime.NumGoroutine") = false := by simpa using hname
      refine ⟨fun w' => callFunc_run hf hname' hb args' w', ?_⟩
      split at h
      · simp at h
      · rename_i e T H1 hne hex
        obtain ⟨v1, hv1, hv2⟩ := map_some h
        cases hv2
        exact callsIn_wide.1 (body_calls (K := fun _ _ => True) (m := .fn) (exec_wp hm (call_sim hm hp n) (n + 1) c) hf hb (fun _ _ _ _ _ _ _ _ _ => trivial) rfl hex hne hv1 hr trivial hargs 0)
      · simp at h

def noPrim : CallF := fun _ _ _ => none
theorem noPrim_sim : CallSim P noPrim := fun _ _ _ _ _ h => by simp [noPrim] at h
end
#print axioms call_sim
end Go.Ab
namespace Go.Ab
section
variable {P : Program}

def Le (c c' : CallF) : Prop := ∀ f a H r, c f a H = some r → c' f a H = some r
def YLe (c c' : Yl) : Prop := ∀ f a H r, c f a H = some r → c' f a H = some r
inductive MLe : Mode → Mode → Prop
  | fn : MLe .fn .fn
  | round : MLe .round .round
  | iter {y y' : Yl} : YLe y y' → MLe (.iter y) (.iter y')
theorem Le.refl (c : CallF) : Le c c := fun _ _ _ _ h => h
theorem MLe.refl : ∀ m : Mode, MLe m m
  | .fn => .fn
  | .round => .round
  | .iter _ => .iter fun _ _ _ _ h => h

variable {c c' : CallF} (hc : Le c c')
include hc
theorem opA_mono {T : Array Value} {o : Oper} {H : Heap} {r : Value × Heap} (h : opA P c T o H = some r) : opA P c' T o H = some r := by
  unfold opA at h ⊢
  split at h
  rotate_left
  · cases h
  rename_i hok
  rw [if_pos hok]
  split at h
  · rename_i f args _ heq
    split at h
    · exact hc _ _ _ _ h
    · cases h
  · exact h
theorem stA_mono {ops : Array Oper} {o : Oper} {s r : Array Value × Heap} (h : stA P c ops o s = some r) : stA P c' ops o s = some r := by
  unfold stA at h ⊢
  split at h
  · rename_i hw
    rw [if_pos hw]
    obtain ⟨x, h1, h2⟩ := map_some h
    rw [opA_mono hc h1]; simp [← h2]
  · rename_i hw
    rw [if_neg hw]; exact h
theorem traceA_mono {ops : Array Oper} : ∀ (os : List Oper) {s : Array Value × Heap} {r : List (Array Value × Heap)}, traceA P c ops os s = some r → traceA P c' ops os s = some r
  | [], _, _, h => h
  | o :: os, s, r, h => by
    unfold traceA at h ⊢
    split at h
    · rename_i s' hs
      rw [stA_mono hc hs]
      obtain ⟨x, h1, h2⟩ := map_some h
      simp only [traceA_mono os h1]; simp [← h2]
    · cases h
theorem regD_mono {ops : Array Oper} {T : Array Value} {H : Heap} {r : Array Value × Heap} (h : regD P c ops T H = some r) : regD P c' ops T H = some r := by
  unfold regD at h ⊢
  split at h
  · rename_i tr ht
    rw [traceA_mono hc _ ht]; exact h
  · cases h
theorem opY_mono {m m' : Mode} (hm : MLe m m') {T : Array Value} {o : Oper} {H : Heap} {r : Value × Heap} (h : opY P c m T o H = some r) : opY P c' m' T o H = some r := by
  unfold opY at h ⊢
  cases hm with
  | fn => simp only at h ⊢; exact opA_mono hc h
  | round => simp only at h ⊢; exact opA_mono hc h
  | iter hy =>
    cases hq : yieldOf P T o with
    | none => simp only [hq] at h ⊢; exact opA_mono hc h
    | some x => simp only [hq] at h ⊢; exact hy _ _ _ _ h
theorem stY_mono {m m' : Mode} (hm : MLe m m') {ops : Array Oper} {o : Oper} {s r : Array Value × Heap} (h : stY P c m ops o s = some r) : stY P c' m' ops o s = some r := by
  unfold stY at h ⊢
  split at h
  · rename_i hw
    rw [if_pos hw]
    obtain ⟨x, h1, h2⟩ := map_some h
    rw [opY_mono hc hm h1]; simp [← h2]
  · rename_i hw
    rw [if_neg hw]; exact h
theorem regA_mono {m m' : Mode} (hm : MLe m m') {ops : Array Oper} : ∀ (os : List Oper) {T : Array Value} {H : Heap} {r : Array Value × Heap}, regA P c m ops os T H = some r → regA P c' m' ops os T H = some r
  | [], _, _, _, h => h
  | o :: os, T, H, r, h => by
    unfold regA at h ⊢
    split at h
    · rename_i T' H' hs
      rw [stY_mono hc hm hs]; exact regA_mono hm os h
    · cases h
theorem execA_mono : ∀ (n n' : Nat), n ≤ n' → ∀ {m m' : Mode}, MLe m m' → ∀ {k : Code} {T : Array Value} {H : Heap} {r : AExit × Array Value × Heap}, execA P c n m k T H = some r → execA P c' n' m' k T H = some r
  | 0, _, _, m, m', hm, k, T, H, r, h => by simp [execA] at h
  | n + 1, 0, hn, _, _, _, _, _, _, _, _ => by omega
  | n + 1, n' + 1, hn, m, m', hm, k, T, H, r, h => by
    have hn' : n ≤ n' := by omega
    cases k with
    | skip => simpa [execA] using h
    | label l => simpa [execA] using h
    | exit id => simpa [execA] using h
    | ret => simpa [execA] using h
    | scope _ => simp [execA] at h
    | goto _ => simp [execA] at h
    | refuse _ => simp [execA] at h
    | region id ops draw =>
      simp only [execA] at h ⊢
      obtain ⟨x, h1, h2⟩ := map_some h
      have : (if draw = true then regD P c' ops T H else regA P c' m' ops ops.toList T H) = some x := by
        split at h1
        · rename_i hd; rw [if_pos hd]; exact regD_mono hc h1
        · rename_i hd; rw [if_neg hd]; exact regA_mono hc hm _ h1
      rw [this]; simp [← h2]
    | seq a b =>
      simp only [execA] at h ⊢
      split at h
      · rename_i T' H' h1
        rw [execA_mono n n' hn' hm h1]; exact execA_mono n n' hn' hm h
      · rename_i hne
        rw [execA_mono n n' hn' hm h]
        split
        · rename_i heq; cases heq; exact absurd h (hne _ _)
        · rfl
    | cond x a b =>
      simp only [execA] at h ⊢
      split at h
      rotate_left
      · cases h
      rename_i hok
      rw [if_pos hok]
      split at h
      · rename_i t ht
        first | rw [ht] | skip
        exact execA_mono n n' hn' hm h
      · cases h
    | block id a =>
      simp only [execA] at h ⊢
      split at h
      · rename_i id' T' H' h1
        rw [execA_mono n n' hn' hm h1]; exact h
      · rename_i hne
        rw [execA_mono n n' hn' hm h]
        split
        · rename_i heq; cases heq; exact absurd h (hne _ _ _)
        · rfl
    | loop a =>
      simp only [execA] at h ⊢
      split at h
      · rename_i T' H' h1
        rw [execA_mono n n' hn' hm h1]; exact execA_mono n n' hn' hm h
      · rename_i hne
        rw [execA_mono n n' hn' hm h]
        split
        · rename_i heq; cases heq; exact absurd h (hne _ _)
        · rfl
    | rangeFunc f ps asg body =>
      simp only [execA] at h ⊢
      cases hm with
      | round => cases h
      | iter _ => cases h
      | fn =>
        simp only at h ⊢
        split at h
        rotate_left
        · cases h
        rename_i hok
        rw [if_pos hok]
        split at h
        rotate_left
        · cases h
        rename_i g cap hf
        try rw [hf]
        try simp only
        split at h
        rotate_left
        · cases h
        rename_i fn hfn
        try rw [hfn]
        try simp only
        split at h
        · cases h
        rename_i hname
        rw [if_neg hname]
        split at h
        rotate_left
        · cases h
        rename_i cd hcd
        try rw [hcd]
        try simp only
        split at h
        · cases h
        rotate_left
        · cases h
        rename_i e1 T1 H1 hne hex
        have hy : YLe (roundYl (execA P c n .round asg) (execA P c n .round body) ps T H.size) (roundYl (execA P c' n' .round asg) (execA P c' n' .round body) ps T H.size) := by
          intro b args Hy r hr
          simp only [roundYl] at hr ⊢
          split at hr
          rotate_left
          · cases hr
          rename_i hb
          rw [if_pos hb]
          split at hr
          rotate_left
          · cases hr
          rename_i T2 H2 h2
          rw [execA_mono n n' hn' .round h2]
          simp only
          split at hr
          rotate_left
          · cases hr
          rename_i T3 H3 h3
          rw [execA_mono n n' hn' .round h3]
          exact hr
        have := execA_mono n n' hn' (.iter hy) hex
        rw [this]
        cases e1 with
        | exit id => exact absurd rfl (hne id)
        | normal => exact h
        | ret => exact h
omit hc
theorem prim_le (prim : CallF) : ∀ n, Le prim (callA P prim n)
  | 0 => Le.refl _
  | n + 1 => fun f a H r h => by simp [callA, h]
theorem callA_mono (prim : CallF) : ∀ (n n' : Nat), n ≤ n' → Le (callA P prim n) (callA P prim n')
  | 0, n', _ => prim_le prim n'
  | n + 1, 0, h => by omega
  | n + 1, n' + 1, hn => fun f a H r h => by
    simp only [callA] at h ⊢
    cases hp : prim f a H with
    | some x => simp only [hp] at h ⊢; exact h
    | none =>
      simp only [hp] at h ⊢
      split at h
      rotate_left
      · cases h
      rename_i fn hfn
      try rw [hfn]
      try simp only
      split at h
      · cases h
      rename_i hname
      rw [if_neg hname]
      split at h
      rotate_left
      · cases h
      rename_i cd hcd
      try rw [hcd]
      try simp only
      split at h
      · cases h
      · rename_i e T1 H1 hne hex
        rw [execA_mono (callA_mono prim n n' (by omega)) (n + 1) (n' + 1) hn .fn hex]
        cases e with
        | exit id => exact absurd rfl (hne id)
        | normal => exact h
        | ret => exact h
      · cases h
end
end Go.Ab
namespace Go.Ab

abbrev Env := List (Nat × Value)
def lk : Env → Nat → Option Value
  | [], _ => none
  | (k, v) :: E, j => match Nat.beq k j with
    | true => some v
    | false => lk E j
def Kn (E : Env) (T : Array Value) : Prop := ∀ k v, lk E k = some v → T[k]? = some v
def evE (E : Env) : Operand → Option Value
  | .tmp t => lk E t
  | .const v => some v
  | .global g => some (.pointer (some ⟨g, 0, none⟩))
  | .func f => some (.func (.func f) #[] #[])
def putE (d : Option Tmp) (v : Value) (E : Env) : Env :=
  match d with
  | some d => (d, v) :: E
  | none => E
def okDst (d : Option Tmp) (N : Nat) : Bool :=
  match d with
  | some d => Nat.blt d N
  | none => true

theorem lk_cons {k j : Nat} {v : Value} {E : Env} : lk ((k, v) :: E) j = if k = j then some v else lk E j := by
  simp only [lk]
  by_cases h : k = j
  · subst h; simp
  · have : Nat.beq k j = false := by simpa [← Bool.not_eq_true, Nat.beq_eq] using h
    rw [this]; simp [h]
theorem Kn.put {E : Env} {T : Array Value} (h : Kn E T) {d : Option Tmp} (hd : okDst d T.size = true) (v : Value) : Kn (putE d v E) (putT T d v) := by
  cases d with
  | none => exact h
  | some d =>
    intro k u hk
    simp only [putE, lk_cons] at hk
    simp only [okDst, Nat.blt_eq] at hd
    simp only [putT, Array.getElem?_setIfInBounds]
    split at hk
    · rename_i e; subst e; simp at hk; subst hk; simp [hd]
    · rename_i e; rw [if_neg e]; exact h k u hk
theorem putT_sz (T : Array Value) (d : Option Tmp) (v : Value) : (putT T d v).size = T.size := by cases d <;> simp [putT]
theorem Kn.ev {E : Env} {T : Array Value} (h : Kn E T) {x : Operand} {v : Value} (hx : evE E x = some v) : evT T x = v := by
  cases x with
  | tmp t =>
    have := h t v hx
    simp [evT, Array.getD_eq_getD_getElem?, this]
  | const _ => simpa [evE, evT] using hx
  | global _ => simpa [evE, evT] using hx
  | func _ => simpa [evE, evT] using hx
def subE : Env → Env → Prop
  | [], _ => True
  | (k, v) :: E, F => lk F k = some v ∧ subE E F
theorem subE_lk : ∀ {E F : Env}, subE E F → ∀ {k v}, lk E k = some v → lk F k = some v
  | [], _, _, k, v, h => by simp [lk] at h
  | (k0, v0) :: E, F, hs, k, v, h => by
    rw [lk_cons] at h
    split at h
    · rename_i e; subst e; simp at h; subst h; exact hs.1
    · exact subE_lk hs.2 h
theorem Kn.sub {E F : Env} {T : Array Value} (h : Kn F T) (hs : subE E F) : Kn E T := fun k v hk => h k v (subE_lk hs hk)

section
variable (P : Program) (prim : CallF)

def Cn (f : FuncId) (args : Array Value) (H : Heap) (R : Value → Heap → Prop) : Prop := ∃ v H', (∃ n, callA P prim n f args H = some (v, H')) ∧ R v H'

inductive MK
  | fn
  | round
  | iter (asg body : Code) (ps : Array Tmp) (T : Array Value) (l : Nat)
def MK.md : MK → Nat → Mode
  | .fn, _ => .fn
  | .round, _ => .round
  | .iter asg body ps T l, n => .iter (roundYl (execA P (callA P prim n) n .round asg) (execA P (callA P prim n) n .round body) ps T l)

def We (mk : MK) (c : Code) (T : Array Value) (H : Heap) (Q : AExit → Array Value → Heap → Prop) : Prop :=
  ∃ n e T' H', execA P (callA P prim n) n (mk.md P prim n) c T H = some (e, T', H') ∧ Q e T' H'
def WC (mk : MK) (c : Code) (N : Nat) (E : Env) (H : Heap) (Q : AExit → Array Value → Heap → Prop) : Prop :=
  ∀ T, T.size = N → Kn E T → We P prim mk c T H Q
structure WO (mk : MK) (ops : Array Oper) (l : List Oper) (N : Nat) (E : Env) (H : Heap) (K : Env → Heap → Prop) : Prop where
  go : ∀ T, T.size = N → Kn E T → ∃ n T' H' E', regA P (callA P prim n) (mk.md P prim n) ops l T H = some (T', H') ∧ T'.size = N ∧ Kn E' T' ∧ K E' H'

variable {P prim}
theorem Cn.mono {f : FuncId} {args : Array Value} {H : Heap} {R R' : Value → Heap → Prop} (h : Cn P prim f args H R) (hR : ∀ v H', R v H' → R' v H') : Cn P prim f args H R' := by
  obtain ⟨v, H', h1, h2⟩ := h
  exact ⟨v, H', h1, hR _ _ h2⟩
theorem WC.mono {mk : MK} {c : Code} {N : Nat} {E : Env} {H : Heap} {Q Q' : AExit → Array Value → Heap → Prop} (h : WC P prim mk c N E H Q) (hQ : ∀ e T H, Q e T H → Q' e T H) : WC P prim mk c N E H Q' := fun T h1 h2 =>
  let ⟨n, e, T', H', h3, h4⟩ := h T h1 h2; ⟨n, e, T', H', h3, hQ _ _ _ h4⟩
theorem WC.sub {mk : MK} {c : Code} {N : Nat} {E F : Env} {H : Heap} {Q : AExit → Array Value → Heap → Prop} (h : WC P prim mk c N E H Q) (hs : subE E F) : WC P prim mk c N F H Q := fun T h1 h2 => h T h1 (h2.sub hs)

theorem MK.mono (mk : MK) {n n' : Nat} (h : n ≤ n') : MLe (mk.md P prim n) (mk.md P prim n') := by
  cases mk with
  | fn => exact .fn
  | round => exact .round
  | iter asg body ps T l =>
    refine .iter fun b args H r hr => ?_
    simp only [roundYl] at hr ⊢
    split at hr
    rotate_left
    · cases hr
    rename_i hb
    rw [if_pos hb]
    split at hr
    rotate_left
    · cases hr
    rename_i T2 H2 h2
    rw [execA_mono (callA_mono prim n n' h) n n' h .round h2]
    simp only
    split at hr
    rotate_left
    · cases hr
    rename_i T3 H3 h3
    rw [execA_mono (callA_mono prim n n' h) n n' h .round h3]
    exact hr
theorem exec_up {mk : MK} {n n' : Nat} (h : n ≤ n') {c : Code} {T : Array Value} {H : Heap} {r : AExit × Array Value × Heap} (hr : execA P (callA P prim n) n (mk.md P prim n) c T H = some r) : execA P (callA P prim n') n' (mk.md P prim n') c T H = some r :=
  execA_mono (callA_mono prim n n' h) n n' h (mk.mono h) hr
theorem exec_up' {mk : MK} {n n' : Nat} (h : n ≤ n') {c : Code} {T : Array Value} {H : Heap} {r : AExit × Array Value × Heap} (hr : execA P (callA P prim n) n (mk.md P prim n) c T H = some r) : execA P (callA P prim (n' + 1)) n' (mk.md P prim (n' + 1)) c T H = some r :=
  execA_mono (callA_mono prim n (n' + 1) (by omega)) n n' h (mk.mono (by omega)) hr

def QSeq (f : Array Value → Heap → Prop) (Q : AExit → Array Value → Heap → Prop) : AExit → Array Value → Heap → Prop
  | .normal, T, H => f T H
  | e, T, H => Q e T H
variable {mk : MK} {N : Nat} {E : Env} {H : Heap} {Q : AExit → Array Value → Heap → Prop}

theorem we_seq {a b : Code} {T : Array Value} (h : We P prim mk a T H (QSeq (fun T' H' => We P prim mk b T' H' Q) Q)) : We P prim mk (.seq a b) T H Q := by
  obtain ⟨n, e, T', H', h1, h2⟩ := h
  cases e with
  | normal =>
    obtain ⟨n2, e2, T2, H2, h3, h4⟩ := h2
    refine ⟨max n n2 + 1, e2, T2, H2, ?_, h4⟩
    simp only [execA]
    rw [exec_up' (n' := max n n2) (by omega) h1]
    exact exec_up' (n' := max n n2) (by omega) h3
  | exit id =>
    refine ⟨n + 1, .exit id, T', H', ?_, h2⟩
    simp only [execA]
    rw [exec_up' (n' := n) (by omega) h1]
  | ret =>
    refine ⟨n + 1, .ret, T', H', ?_, h2⟩
    simp only [execA]
    rw [exec_up' (n' := n) (by omega) h1]
theorem wc_seq {a b : Code} (h : WC P prim mk a N E H (QSeq (fun T' H' => We P prim mk b T' H' Q) Q)) : WC P prim mk (.seq a b) N E H Q := fun T h1 h2 => we_seq (h T h1 h2)
theorem wc_assoc {a b c : Code} (h : WC P prim mk (.seq a (.seq b c)) N E H Q) : WC P prim mk (.seq (.seq a b) c) N E H Q := fun T h1 h2 => by
  obtain ⟨n, e, T', H', h3, h4⟩ := h T h1 h2
  refine ⟨n + 1, e, T', H', ?_, h4⟩
  cases n with
  | zero => simp [execA] at h3
  | succ n =>
    simp only [execA] at h3 ⊢
    have up : ∀ {c T H r}, execA P (callA P prim (n + 1)) n (mk.md P prim (n + 1)) c T H = some r → execA P (callA P prim (n + 2)) n (mk.md P prim (n + 2)) c T H = some r := fun h => execA_mono (callA_mono prim _ _ (by omega)) n n (Nat.le_refl _) (mk.mono (by omega)) h
    have up2 : ∀ {c T H r}, execA P (callA P prim (n + 1)) n (mk.md P prim (n + 1)) c T H = some r → execA P (callA P prim (n + 2)) (n + 1) (mk.md P prim (n + 2)) c T H = some r := fun h => execA_mono (callA_mono prim _ _ (by omega)) n (n + 1) (by omega) (mk.mono (by omega)) h
    split at h3
    · rename_i T1 H1 ha
      cases n with
      | zero => simp [execA] at h3
      | succ n =>
        simp only [execA] at h3
        rw [up ha]
        simp only
        have up3 : ∀ {c T H r}, execA P (callA P prim (n + 2)) n (mk.md P prim (n + 2)) c T H = some r → execA P (callA P prim (n + 3)) (n + 1) (mk.md P prim (n + 3)) c T H = some r := fun h => execA_mono (callA_mono prim _ _ (by omega)) n (n + 1) (by omega) (mk.mono (by omega)) h
        have up4 : ∀ {c T H r}, execA P (callA P prim (n + 2)) n (mk.md P prim (n + 2)) c T H = some r → execA P (callA P prim (n + 3)) (n + 2) (mk.md P prim (n + 3)) c T H = some r := fun h => execA_mono (callA_mono prim _ _ (by omega)) n (n + 2) (by omega) (mk.mono (by omega)) h
        split at h3
        · rename_i T2 H2 hb
          rw [up3 hb]
          exact up4 h3
        · rename_i hne
          rw [up3 h3]
          cases e with
          | normal => exact absurd h3 (hne _ _)
          | exit _ => rfl
          | ret => rfl
    · rename_i hne
      have h3' := up h3
      cases e with
      | normal => exact absurd h3 (hne _ _)
      | exit _ => rw [h3']
      | ret => rw [h3']
theorem wc_skip_seq {b : Code} (h : WC P prim mk b N E H Q) : WC P prim mk (.seq .skip b) N E H Q := fun T h1 h2 =>
  we_seq ⟨1, .normal, T, H, by simp [execA], h T h1 h2⟩
theorem wc_skip (h : ∀ T, T.size = N → Kn E T → Q .normal T H) : WC P prim mk .skip N E H Q := fun T h1 h2 => ⟨1, .normal, T, H, by simp [execA], h T h1 h2⟩
theorem wc_exit {id : Nat} (h : ∀ T, T.size = N → Kn E T → Q (.exit id) T H) : WC P prim mk (.exit id) N E H Q := fun T h1 h2 => ⟨1, .exit id, T, H, by simp [execA], h T h1 h2⟩
theorem wc_exit_seq {id : Nat} {b : Code} (h : WC P prim mk (.exit id) N E H Q) : WC P prim mk (.seq (.exit id) b) N E H Q := fun T h1 h2 => by
  obtain ⟨n, e, T', H', h3, h4⟩ := h T h1 h2
  cases n with
  | zero => simp [execA] at h3
  | succ n =>
    simp only [execA] at h3
    cases h3
    exact we_seq ⟨1, .exit id, T, H, by simp [execA], h4⟩
theorem wc_cond {x : Operand} {a b : Code} (hok : okOpd P x = true) {t : Bool} (hx : evE E x = some (.bool t)) (h : WC P prim mk (if t then a else b) N E H Q) : WC P prim mk (.cond x a b) N E H Q := fun T h1 h2 => by
  obtain ⟨n, e, T', H', h3, h4⟩ := h T h1 h2
  refine ⟨n + 1, e, T', H', ?_, h4⟩
  simp only [execA, hok, if_true, h2.ev hx]
  exact exec_up' (n' := n) (Nat.le_refl _) h3
theorem wc_if {x : Operand} {a b : Code} (hok : okOpd P x = true) {p : Prop} [Decidable p] (hx : evE E x = some (.bool (decide p))) (ha : p → WC P prim mk a N E H Q) (hb : ¬ p → WC P prim mk b N E H Q) : WC P prim mk (.cond x a b) N E H Q := by
  refine wc_cond hok hx ?_
  by_cases hp : p
  · simp only [hp, decide_true, if_true]; exact ha hp
  · simp only [hp, decide_false, Bool.false_eq_true, if_false]; exact hb hp
theorem wc_if_seq {x : Operand} {a b c : Code} (hok : okOpd P x = true) {p : Prop} [Decidable p] (hx : evE E x = some (.bool (decide p))) (ha : p → WC P prim mk (.seq a c) N E H Q) (hb : ¬ p → WC P prim mk (.seq b c) N E H Q) : WC P prim mk (.seq (.cond x a b) c) N E H Q := by
  have key : ∀ {d : Code}, WC P prim mk (.seq d c) N E H Q → WC P prim mk d N E H (QSeq (fun T' H' => We P prim mk c T' H' Q) Q) := by
    intro d h T h1 h2
    obtain ⟨n, e, T', H', h3, h4⟩ := h T h1 h2
    cases n with
    | zero => simp [execA] at h3
    | succ n =>
      simp only [execA] at h3
      split at h3
      · rename_i T1 H1 hd
        refine ⟨n + 1, .normal, T1, H1, ?_, ?_⟩
        · exact execA_mono (Le.refl _) n (n + 1) (by omega) (MLe.refl _) hd
        · exact ⟨n + 1, e, T', H', execA_mono (Le.refl _) n (n + 1) (by omega) (MLe.refl _) h3, h4⟩
      · rename_i hne
        refine ⟨n + 1, e, T', H', execA_mono (Le.refl _) n (n + 1) (by omega) (MLe.refl _) h3, ?_⟩
        cases e with
        | normal => exact absurd h3 (hne _ _)
        | exit _ => exact h4
        | ret => exact h4
  exact wc_seq (wc_if hok hx (fun hp => key (ha hp)) (fun hp => key (hb hp)))
theorem wc_ifb {x : Operand} {a b : Code} (hok : okOpd P x = true) {t : Bool} (hx : evE E x = some (.bool t)) (ha : t = true → WC P prim mk a N E H Q) (hb : t = false → WC P prim mk b N E H Q) : WC P prim mk (.cond x a b) N E H Q := by
  cases t with
  | true => exact wc_if (p := True) hok (by simpa using hx) (fun _ => ha rfl) (fun h => absurd trivial h)
  | false => exact wc_if (p := False) hok (by simpa using hx) (fun h => h.elim) (fun _ => hb rfl)
def Qblock (id : Nat) (Q : AExit → Array Value → Heap → Prop) : AExit → Array Value → Heap → Prop
  | .exit id', T, H => if id' = id then Q .normal T H else Q (.exit id') T H
  | e, T, H => Q e T H
theorem wc_block {id : Nat} {c : Code} (h : WC P prim mk c N E H (Qblock id Q)) : WC P prim mk (.block id c) N E H Q := fun T h1 h2 => by
  obtain ⟨n, e, T', H', h3, h4⟩ := h T h1 h2
  cases e with
  | normal => exact ⟨n + 1, .normal, T', H', by simp only [execA]; rw [exec_up' (n' := n) (Nat.le_refl _) h3], h4⟩
  | ret => exact ⟨n + 1, .ret, T', H', by simp only [execA]; rw [exec_up' (n' := n) (Nat.le_refl _) h3], h4⟩
  | exit id' =>
    by_cases hid : id' = id
    · refine ⟨n + 1, .normal, T', H', ?_, by simpa [Qblock, hid] using h4⟩
      simp only [execA]; rw [exec_up' (n' := n) (Nat.le_refl _) h3]; simp [hid]
    · refine ⟨n + 1, .exit id', T', H', ?_, by simpa [Qblock, hid] using h4⟩
      simp only [execA]; rw [exec_up' (n' := n) (Nat.le_refl _) h3]; simp [hid]
def LoopP {σ : Type} (I : σ → Heap → Prop) (F : σ → Env) (μ : σ → Nat) (N : Nat) (s : σ) (T : Array Value) (H : Heap) : Prop := T.size = N ∧ ∃ s', μ s' < μ s ∧ I s' H ∧ Kn (F s') T
theorem wc_loop {c : Code} {σ : Type} (I : σ → Heap → Prop) (F : σ → Env) (μ : σ → Nat) (s0 : σ) (hE : subE (F s0) E) (h0 : I s0 H)
    (hstep : ∀ s H, I s H → WC P prim mk c N (F s) H (QSeq (LoopP I F μ N s) Q)) : WC P prim mk (.loop c) N E H Q := by
  have key : ∀ (k : Nat) (s : σ) (H : Heap), μ s ≤ k → I s H → ∀ T, T.size = N → Kn (F s) T → We P prim mk (.loop c) T H Q := by
    intro k
    induction k with
    | zero =>
      intro s H hk hi T h1 h2
      obtain ⟨n, e, T', H', h3, h4⟩ := hstep s H hi T h1 h2
      cases e with
      | normal => obtain ⟨_, s', hlt, _⟩ := h4; omega
      | exit id => exact ⟨n + 1, .exit id, T', H', by simp only [execA]; rw [exec_up' (n' := n) (Nat.le_refl _) h3], h4⟩
      | ret => exact ⟨n + 1, .ret, T', H', by simp only [execA]; rw [exec_up' (n' := n) (Nat.le_refl _) h3], h4⟩
    | succ k ih =>
      intro s H hk hi T h1 h2
      obtain ⟨n, e, T', H', h3, h4⟩ := hstep s H hi T h1 h2
      cases e with
      | normal =>
        obtain ⟨hsz, s', hlt, hi', hkn⟩ := h4
        obtain ⟨n2, e2, T2, H2, h5, h6⟩ := ih s' H' (by omega) hi' T' hsz hkn
        refine ⟨max n n2 + 1, e2, T2, H2, ?_, h6⟩
        simp only [execA]
        rw [exec_up' (n' := max n n2) (by omega) h3]
        exact exec_up' (n' := max n n2) (by omega) h5
      | exit id => exact ⟨n + 1, .exit id, T', H', by simp only [execA]; rw [exec_up' (n' := n) (Nat.le_refl _) h3], h4⟩
      | ret => exact ⟨n + 1, .ret, T', H', by simp only [execA]; rw [exec_up' (n' := n) (Nat.le_refl _) h3], h4⟩
  exact fun T h1 h2 => key _ s0 H (Nat.le_refl _) h0 T h1 (h2.sub hE)
theorem wc_block_seq {id : Nat} {a b d : Code} (h : WC P prim mk (.seq a b) N E H (Qblock id (QSeq (fun T' H' => We P prim mk d T' H' Q) Q))) : WC P prim mk (.seq (.block id (.seq a b)) d) N E H Q := wc_seq (wc_block h)
theorem q_next {id : Nat} {d : Code} (h : WC P prim mk d N E H Q) : ∀ T, T.size = N → Kn E T → Qblock id (QSeq (fun T' H' => We P prim mk d T' H' Q) Q) .normal T H := fun T h1 h2 => h T h1 h2
theorem q_round {σ : Type} {I : σ → Heap → Prop} {F : σ → Env} {μ : σ → Nat} {s : σ} (s' : σ) (h1 : μ s' < μ s) (h2 : I s' H) (h3 : subE (F s') E) : ∀ T, T.size = N → Kn E T → QSeq (LoopP I F μ N s) Q .normal T H := fun _ hs hk => ⟨hs, s', h1, h2, hk.sub h3⟩
theorem reg_up {n n' : Nat} (h : n ≤ n') {ops : Array Oper} {l : List Oper} {T : Array Value} {H : Heap} {r : Array Value × Heap} (hr : regA P (callA P prim n) (mk.md P prim n) ops l T H = some r) : regA P (callA P prim n') (mk.md P prim n') ops l T H = some r :=
  regA_mono (callA_mono prim n n' h) (mk.mono h) l hr
theorem we_region {id : Nat} {l : List Oper} {T : Array Value} {H : Heap} {n : Nat} {T' : Array Value} {H' : Heap} (h : regA P (callA P prim n) (mk.md P prim n) ⟨l⟩ l T H = some (T', H')) : execA P (callA P prim (n + 1)) (n + 1) (mk.md P prim (n + 1)) (.region id ⟨l⟩ false) T H = some (.normal, T', H') := by
  simp only [execA, Bool.false_eq_true, if_false]
  rw [reg_up (n' := n + 1) (by omega) h]; rfl
theorem wc_region {id : Nat} {l : List Oper} (h : WO P prim mk ⟨l⟩ l N E H (fun E' H' => ∀ T, T.size = N → Kn E' T → Q .normal T H')) : WC P prim mk (.region id ⟨l⟩ false) N E H Q := fun T h1 h2 => by
  obtain ⟨n, T', H', E', h3, h4, h5, h6⟩ := h.go T h1 h2
  exact ⟨n + 1, .normal, T', H', we_region h3, h6 T' h4 h5⟩
theorem wc_region_seq {id : Nat} {l : List Oper} {c : Code} (h : WO P prim mk ⟨l⟩ l N E H (fun E' H' => WC P prim mk c N E' H' Q)) : WC P prim mk (.seq (.region id ⟨l⟩ false) c) N E H Q := fun T h1 h2 => by
  obtain ⟨n, T', H', E', h3, h4, h5, h6⟩ := h.go T h1 h2
  exact we_seq ⟨n + 1, .normal, T', H', we_region h3, h6 T' h4 h5⟩
variable {ops : Array Oper} {rest : List Oper} {K : Env → Heap → Prop}
theorem wo_nil (h : K E H) : WO P prim mk ops [] N E H K := ⟨fun T h1 h2 => ⟨0, T, H, E, rfl, h1, h2, h⟩⟩

def OpE (P : Program) (E : Env) (op : Op) (H : Heap) (v : Value) (H' : Heap) : Prop := (∀ x, op ≠ .call x ∨ ∀ f, x.callee ≠ .value f) ∧ ∀ T, Kn E T → op.operands.toList.all (okOpd P) = true ∧ stepOp P (evT T) op H = some (v, H')

theorem OpE.yield {op : Op} {v : Value} {H' : Heap} (h : OpE P E op H v H') {o : Oper} (ho : o.op = op) (T : Array Value) : yieldOf P T o = none := by
  unfold yieldOf
  rw [ho]
  split
  · rename_i f args ts
    rcases h.1 _ with h | h
    · exact absurd rfl h
    · exact absurd rfl (h f)
  · rfl
theorem OpE.run {op : Op} {v : Value} {H' : Heap} (h : OpE P E op H v H') {o : Oper} (ho : o.op = op) {T : Array Value} (hT : Kn E T) (c : CallF) : opA P c T o H = some (v, H') := by
  obtain ⟨h1, h2⟩ := h.2 T hT
  unfold opA
  rw [ho, h1]
  simp only [if_true]
  split
  · rename_i f args ts
    rcases h.1 _ with h | h
    · exact absurd rfl h
    · exact absurd rfl (h f)
  · exact h2
theorem OpE.runY {op : Op} {v : Value} {H' : Heap} (h : OpE P E op H v H') {o : Oper} (ho : o.op = op) {T : Array Value} (hT : Kn E T) (c : CallF) (m : Mode) : opY P c m T o H = some (v, H') := by
  unfold opY
  rw [h.yield ho T]
  cases m <;> exact h.run ho hT c

theorem wo_step {o : Oper} (hw : ∀ T, Kn E T → wantedA ops T o = true) {v : Value} {H' : Heap} (hop : ∀ T, Kn E T → ∃ n, opY P (callA P prim n) (mk.md P prim n) T o H = some (v, H')) (hd : okDst o.dst N = true)
    (h : WO P prim mk ops rest N (putE o.dst v E) H' K) : WO P prim mk ops (o :: rest) N E H K := by
  refine ⟨fun T h1 h2 => ?_⟩
  obtain ⟨n1, h3⟩ := hop T h2
  obtain ⟨n2, T', H2, E', h4, h5⟩ := h.go (putT T o.dst v) (by rw [putT_sz]; exact h1) (h2.put (by rw [h1]; exact hd) v)
  refine ⟨max n1 n2, T', H2, E', ?_, h5⟩
  have h6 := opY_mono (callA_mono prim n1 (max n1 n2) (by omega)) (mk.mono (n := n1) (n' := max n1 n2) (by omega)) h3
  simp only [regA, stY, hw T h2, if_true, h6, Option.map_some]
  exact reg_up (n' := max n1 n2) (by omega) h4
theorem wanted_none {o : Oper} (h : o.guard = none) (T : Array Value) : wantedA ops T o = true := by simp [wantedA, Region.wanted, h]
theorem wo_op {o : Oper} {op : Op} {v : Value} {H' : Heap} (ho : o.op = op) (hop : OpE P E op H v H') (hg : o.guard = none) (hd : okDst o.dst N = true)
    (h : WO P prim mk ops rest N (putE o.dst v E) H' K) : WO P prim mk ops (o :: rest) N E H K :=
  wo_step (fun T _ => wanted_none hg T) (fun T hT => ⟨0, hop.runY ho hT _ _⟩) hd h
def CallE (P : Program) (E : Env) (op : Op) (g : FuncId) (as : Array Value) : Prop :=
  ∃ f args ts first captured, op = .call { callee := .value f, args := args, argTypes := ts } ∧ op.operands.toList.all (okOpd P) = true ∧ evE E f = some (.func (.func g) first captured) ∧ ∃ bs : List Value, args.toList.mapM (evE E) = some bs ∧ as = (first ++ bs.toArray) ++ captured
theorem mapM_ev {T : Array Value} (hT : Kn E T) : ∀ {l : List Operand} {bs : List Value}, l.mapM (evE E) = some bs → l.map (evT T) = bs
  | [], bs, h => by simpa using h
  | x :: l, bs, h => by
    simp only [List.mapM_cons, Option.bind_eq_bind, Option.bind_eq_some_iff] at h
    obtain ⟨v, h1, vs, h2, h3⟩ := h
    cases h3
    simp only [List.map_cons, hT.ev h1, mapM_ev hT h2]
theorem CallE.run {op : Op} {g : FuncId} {as : Array Value} (h : CallE P E op g as) {o : Oper} (ho : o.op = op) {T : Array Value} (hT : Kn E T) (c : CallF) (m : Mode) : opY P c m T o H = c g as H ∧ opA P c T o H = c g as H := by
  obtain ⟨f, args, ts, first, captured, h1, h2, h3, bs, h4, rfl⟩ := h
  have e1 := hT.ev h3
  have e2 := mapM_ev hT h4
  have hA : opA P c T o H = c g ((first ++ bs.toArray) ++ captured) H := by
    unfold opA
    rw [ho, h2]
    simp only [if_true, h1, e1]
    congr 2
    rw [← e2, ← Array.toList_inj]; simp
  refine ⟨?_, hA⟩
  unfold opY
  have : yieldOf P T o = none := by
    unfold yieldOf
    rw [ho, h1]
    simp only [e1]
  rw [this]
  cases m <;> exact hA
def Fin (P : Program) (fn : Func) (R : Value → Heap → Prop) : AExit → Array Value → Heap → Prop
  | .exit _, _, _ => False
  | _, T, H => ∃ v, resultsA P fn T H = some v ∧ R v H
def argE : Nat → List Value → Env
  | _, [] => []
  | k, v :: l => (k, v) :: argE (k + 1) l
end
end Go.Ab
namespace Go.Ab
section
variable {P : Program} {E : Env} {H : Heap}

theorem op_move {x : Operand} {v : Value} (hx : evE E x = some v) (ok : okOpd P x = true) : OpE P E (.move x) H v H :=
  ⟨fun _ => .inl (by simp), fun T hT => ⟨by simp [Op.operands, ok], by simp [stepOp, hT.ev hx]⟩⟩
theorem op_assign {x : Operand} {v : Value} (hx : evE E x = some v) (ok : okOpd P x = true) : OpE P E (.assign x) H v H :=
  ⟨fun _ => .inl (by simp), fun T hT => ⟨by simp [Op.operands, ok], by simp [stepOp, hT.ev hx]⟩⟩
def ibin : BinOp → IntKind → Int → Int → Option Value
  | .add, k, a, b => some (.int k (k.wrap (a + b)))
  | .sub, k, a, b => some (.int k (k.wrap (a - b)))
  | .mul, k, a, b => some (.int k (k.wrap (a * b)))
  | .quo, k, a, b => if b = 0 then none else some (.int k (k.wrap (a.tdiv b)))
  | .rem, k, a, b => if b = 0 then none else some (.int k (a.tmod b))
  | .and, k, a, b => some (.int k (k.wrap (BitVec.ofInt k.bits a &&& BitVec.ofInt k.bits b).toNat))
  | .or, k, a, b => some (.int k (k.wrap (BitVec.ofInt k.bits a ||| BitVec.ofInt k.bits b).toNat))
  | .xor, k, a, b => some (.int k (k.wrap (BitVec.ofInt k.bits a ^^^ BitVec.ofInt k.bits b).toNat))
  | .andNot, k, a, b => some (.int k (k.wrap (BitVec.ofInt k.bits a &&& ~~~ BitVec.ofInt k.bits b).toNat))
  | .eql, _, a, b => some (.bool (decide (a = b)))
  | .neq, _, a, b => some (.bool (decide (a ≠ b)))
  | .lss, _, a, b => some (.bool (decide (a < b)))
  | .leq, _, a, b => some (.bool (decide (a ≤ b)))
  | .gtr, _, a, b => some (.bool (decide (b < a)))
  | .geq, _, a, b => some (.bool (decide (b ≤ a)))
  | _, _, _, _ => none
theorem binA_int {op : BinOp} {t : TypeId} {ox oy : Operand} {k : IntKind} {a b : Int} {v : Value} (h : ibin op k a b = some v) : binA P op t ox oy (.int k a) (.int k b) = some v := by
  have hff : (flat (.int k a) && flat (.int k b)) = true := rfl
  have key : ∀ (s : Sem Value), s = Sem.pure v → flat v = true → pureV P s = some v := fun s hs hv => by rw [hs]; simp [pureV, pureRun, hv]
  unfold binA
  rw [if_pos hff]
  cases op <;> simp only [ibin] at h <;> first
    | (cases h; done)
    | (by_cases hb : b = 0
       · simp [hb] at h
       · simp only [hb, if_false] at h
         cases h
         exact key _ (by simp [eqGuard, binOp, Op.intDiv, hb]; rfl) rfl)
    | (cases h; exact key _ (by first | rfl | simp [eqGuard, binOp, Op.intCmp]; rfl) rfl)
    | (cases h; exact key _ (by simp [eqGuard, binOp, Op.intBits]; rfl) rfl)
    | (injection h with h; subst h; exact key _ (by simp [eqGuard, binOp, Op.intBits]) rfl)
theorem op_bin {o : BinOp} {t u : TypeId} {x y : Operand} {a b v : Value} (hx : evE E x = some a) (hy : evE E y = some b) (o1 : okOpd P x = true) (o2 : okOpd P y = true) (h : binA P o t x y a b = some v) : OpE P E (.binOp o t x y u) H v H :=
  ⟨fun _ => .inl (by simp), fun T hT => ⟨by simp [Op.operands, o1, o2], by simp [stepOp, hT.ev hx, hT.ev hy, h]⟩⟩
theorem op_ibin {o : BinOp} {t u : TypeId} {x y : Operand} {k : IntKind} {a b : Int} {v : Value} (hx : evE E x = some (.int k a)) (hy : evE E y = some (.int k b)) (o1 : okOpd P x = true) (o2 : okOpd P y = true) (h : ibin o k a b = some v) : OpE P E (.binOp o t x y u) H v H :=
  op_bin hx hy o1 o2 (binA_int h)
def In64 (a : Int) : Prop := -9223372036854775808 ≤ a ∧ a < 9223372036854775808
theorem wrap64 {a : Int} (h : In64 a) : IntKind.i64.wrap a = a := by
  obtain ⟨h1, h2⟩ := h
  unfold IntKind.wrap
  have hb : IntKind.i64.bits = 64 := rfl
  have hs : IntKind.i64.signed = true := rfl
  simp only [hb, hs, Bool.true_and]
  by_cases h0 : 0 ≤ a
  · rw [Int.emod_eq_of_lt h0 (by omega), if_neg (by simp; omega)]
  · have : a % (2 ^ 64 : Int) = a + 2 ^ 64 := by
      rw [← Int.add_emod_right]; exact Int.emod_eq_of_lt (by omega) (by omega)
    rw [this, if_pos (by simp; omega)]; omega
theorem op_sub {t u : TypeId} {x y : Operand} {a b : Int} (hx : evE E x = some (.int .i64 a)) (hy : evE E y = some (.int .i64 b)) (o1 : okOpd P x = true) (o2 : okOpd P y = true) (h : In64 (a - b)) : OpE P E (.binOp .sub t x y u) H (.int .i64 (a - b)) H :=
  op_ibin hx hy o1 o2 (by simp [ibin, wrap64 h])
theorem op_cmp {o : BinOp} {t u : TypeId} {x y : Operand} {k : IntKind} {a b : Int} {v : Bool} (hx : evE E x = some (.int k a)) (hy : evE E y = some (.int k b)) (o1 : okOpd P x = true) (o2 : okOpd P y = true) (h : ibin o k a b = some (.bool v)) : OpE P E (.binOp o t x y u) H (.bool v) H :=
  op_ibin hx hy o1 o2 h
theorem op_not {t : TypeId} {x : Operand} {b : Bool} (hx : evE E x = some (.bool b)) (o1 : okOpd P x = true) : OpE P E (.unOp .not t x) H (.bool (!b)) H :=
  ⟨fun _ => .inl (by simp), fun T hT => ⟨by simp [Op.operands, o1], by
    simp only [stepOp, hT.ev hx]
    have : pureV P (Op.unary .not (.bool b)) = some (.bool (!b)) := rfl
    simp [flat, flat1, this]⟩⟩

class TyI (P : Program) (t : TypeId) (agg : outParam Bool) (sz : outParam Nat) : Prop where
  ag : isAggA P t = some agg
  sz : sizeA P t = some sz
class ElI (P : Program) (t : TypeId) (e : outParam TypeId) : Prop where
  el : elemA P t = some e
  un : P.underlying t = some (.slice e)
class ArI (P : Program) (t : TypeId) (n : outParam Nat) (e : outParam TypeId) : Prop where
  ar : arrayA P t = some (n, e)
class FdI (P : Program) (s : TypeId) (f : Nat) (off : outParam Nat) (ft : outParam TypeId) : Prop where
  fd : fieldA P s f = some (off, ft)
class ByI (P : Program) (t : TypeId) (by_ : outParam Nat) (z : outParam Value) : Prop where
  bt : bytesA P t = some by_
  ze : zeroA P t = some z

def adr : Value → Addr
  | .slice (some a) _ _ => a
  | _ => ⟨0, 0, none⟩
def Sl (H : Heap) (sz : Nat) (v : Value) (rows : List (List Value)) : Prop :=
  rows.length < 2 ^ 62 ∧ (∀ r ∈ rows, r.length = sz) ∧ ((v = .slice none 0 0 ∧ rows = []) ∨ ∃ a cap, v = .slice (some a) rows.length cap ∧ rows.length ≤ cap ∧ (a.spot = some (sz + 1) ∨ a.spot = some 0) ∧ cellsA H a (rows.length * sz) = some rows.flatten)
structure Fr (H H' : Heap) : Prop where
  size : H.size ≤ H'.size
  same : ∀ b, b < H.size → H'[b]? = H[b]?
theorem Fr.refl (H : Heap) : Fr H H := ⟨Nat.le_refl _, fun _ _ => rfl⟩
theorem Fr.trans {A B C : Heap} (h : Fr A B) (k : Fr B C) : Fr A C := ⟨Nat.le_trans h.size k.size, fun b hb => (k.same b (Nat.lt_of_lt_of_le hb h.size)).trans (h.same b hb)⟩
theorem Fr.push (H : Heap) (x : Option Blk) : Fr H (H.push x) := ⟨by simp, fun b hb => by rw [Array.getElem?_push, if_neg (by omega)]⟩
theorem Fr.get {H H' : Heap} (h : Fr H H') {b : Nat} {B : Blk} (hb : H[b]? = some (some B)) : H'[b]? = some (some B) :=
  (h.same b (Array.getElem?_eq_some_iff.1 hb).1).trans hb
theorem cells_fr {H H' : Heap} (h : Fr H H') {a : Addr} {n : Nat} {cs : List Value} (hc : cellsA H a n = some cs) : cellsA H' a n = some cs := by
  unfold cellsA at hc ⊢
  split at hc
  · rename_i B hB; rw [h.get hB]; exact hc
  · cases hc
theorem Sl.fr {H H' : Heap} {sz : Nat} {v : Value} {rows : List (List Value)} (s : Sl H sz v rows) (h : Fr H H') : Sl H' sz v rows := by
  obtain ⟨h1, h2, h3⟩ := s
  refine ⟨h1, h2, ?_⟩
  rcases h3 with h3 | ⟨a, cap, h4, h5, hsp, h6⟩
  · exact .inl h3
  · exact .inr ⟨a, cap, h4, h5, hsp, cells_fr h h6⟩

theorem nocall {c : Call} (hc : ∀ f, c.callee ≠ .value f) : ∀ x, Op.call c ≠ .call x ∨ ∀ f, x.callee ≠ .value f := fun x => by
  by_cases h : c = x
  · subst h; exact .inr hc
  · exact .inl (by intro e; cases e; exact h rfl)
theorem flatten_get {sz : Nat} : ∀ (rows : List (List Value)), (∀ r ∈ rows, r.length = sz) → ∀ (j o : Nat), o < sz → rows.flatten[j * sz + o]? = (rows[j]?).bind (·[o]?)
  | [], _, j, o, _ => by simp
  | r :: rows, h, 0, o, ho => by
    have := h r (List.mem_cons_self ..)
    simp [List.flatten_cons, List.getElem?_append_left (by omega : o < r.length)]
  | r :: rows, h, j + 1, o, ho => by
    have hr := h r (List.mem_cons_self ..)
    rw [List.flatten_cons, List.getElem?_append_right (by rw [hr, Nat.succ_mul]; omega), hr, show (j + 1) * sz + o - sz = j * sz + o by rw [Nat.succ_mul]; omega]
    simpa using flatten_get rows (fun r hr => h r (List.mem_cons_of_mem _ hr)) j o ho
theorem Sl.nil (H : Heap) (sz : Nat) : Sl H sz (.slice none 0 0) [] := ⟨by decide, by simp, .inl ⟨rfl, rfl⟩⟩
theorem cellsA_at {H : Heap} {a : Addr} {n : Nat} {cs : List Value} (h : cellsA H a n = some cs) {i : Nat} (hi : i < n) : cellA H ⟨a.block, a.off + i, none⟩ = cs[i]? := by
  unfold cellsA at h
  unfold cellA
  split at h
  · rename_i B hB
    simp only [hB]
    split at h
    · cases h
      rw [List.getElem?_take, if_pos hi, List.getElem?_drop]
    · cases h
  · cases h
theorem cellsA_sub {H : Heap} {a : Addr} {n : Nat} {cs : List Value} (h : cellsA H a n = some cs) {i m : Nat} (hi : i + m ≤ n) : cellsA H ⟨a.block, a.off + i, none⟩ m = some ((cs.drop i).take m) := by
  unfold cellsA at h ⊢
  split at h
  · rename_i B hB
    simp only [hB]
    split at h
    · rename_i hle
      cases h
      rw [if_pos (by omega)]
      congr 1
      rw [List.drop_take, List.drop_drop, List.take_take, Nat.min_eq_left (by omega)]
    · cases h
  · cases h
theorem Sl.cell {sz : Nat} {v : Value} {rows : List (List Value)} (s : Sl H sz v rows) {j o : Nat} (hj : j < rows.length) (ho : o < sz) : cellA H ⟨(adr v).block, (adr v).off + (j * sz + o), none⟩ = (rows[j]?).bind (·[o]?) := by
  obtain ⟨h1, h2, h3⟩ := s
  rcases h3 with ⟨_, rfl⟩ | ⟨a, cap, rfl, _, _, h6⟩
  · simp at hj
  · have hlt : j * sz + o < rows.length * sz := by
      have : (j + 1) * sz ≤ rows.length * sz := Nat.mul_le_mul_right _ hj
      rw [Nat.succ_mul] at this; omega
    simp only [adr]
    rw [cellsA_at h6 hlt, flatten_get rows h2 j o ho]
theorem Sl.part {sz : Nat} {v : Value} {rows : List (List Value)} (s : Sl H sz v rows) {j o m : Nat} {r : List Value} (hj : rows[j]? = some r) (ho : o + m ≤ sz) (hm : 0 < m) : cellsA H ⟨(adr v).block, (adr v).off + (j * sz + o), none⟩ m = some ((r.drop o).take m) := by
  obtain ⟨h1, h2, h3⟩ := s
  have hjl : j < rows.length := (List.getElem?_eq_some_iff.1 hj).1
  rcases h3 with ⟨_, rfl⟩ | ⟨a, cap, rfl, _, _, h6⟩
  · simp at hjl
  · have hlt : (j + 1) * sz ≤ rows.length * sz := Nat.mul_le_mul_right _ hjl
    rw [Nat.succ_mul] at hlt
    simp only [adr]
    rw [cellsA_sub h6 (by omega)]
    congr 1
    have hr : r.length = sz := h2 r (List.mem_of_getElem? hj)
    apply List.ext_getElem?
    intro i
    rw [List.getElem?_take, List.getElem?_take]
    split
    · rename_i hi
      rw [List.getElem?_drop, List.getElem?_drop, Nat.add_assoc, flatten_get rows h2 j (o + i) (by omega), hj]
      rfl
    · rfl
theorem op_load {x : Operand} {t : TypeId} {a : Addr} {v : Value} (hx : evE E x = some (.pointer (some a))) (o1 : okOpd P x = true) (h : loadA P H t a = some v) : OpE P E (.load t x) H v H :=
  ⟨fun _ => .inl (by simp), fun T hT => ⟨by simp [Op.operands, o1], by simp [stepOp, hT.ev hx, h]⟩⟩
def Ints (H : Heap) (v : Value) (xs : List Int) : Prop := Sl H 1 v (xs.map fun x => [.int .i64 x])
theorem Ints.fr {H H' : Heap} {v : Value} {xs : List Int} (s : Ints H v xs) (h : Fr H H') : Ints H' v xs := Sl.fr s h
theorem Ints.lt {v : Value} {xs : List Int} (s : Ints H v xs) : xs.length < 2 ^ 62 := by have := s.1; simpa using this
end
end Go.Ab
namespace Go.Ab
section
variable {P : Program} {prim : CallF} {mk : MK} {N : Nat} {E : Env} {H : Heap} {Q : AExit → Array Value → Heap → Prop} {ops : Array Oper} {rest : List Oper}

def TrOk (N : Nat) (st : List (Array Value × Heap)) (tr : List (Env × Heap)) : Prop := All2 (fun s e => s.2 = e.2 ∧ s.1.size = N ∧ Kn e.1 s.1) st tr
variable (P prim) in
structure WT (ops : Array Oper) (l : List Oper) (N : Nat) (E : Env) (H : Heap) (K : List (Env × Heap) → Prop) : Prop where
  go : ∀ T, T.size = N → Kn E T → ∃ n st tr, traceA P (callA P prim n) ops l (T, H) = some st ∧ TrOk N st tr ∧ K tr
def isLoad : Op → Bool
  | .load .. => true
  | _ => false
def lays : Op → Bool
  | .alloc .. | .box .. | .buildSlice .. | .makeSlice .. => true
  | _ => false
def unord (ops : Array Oper) : List (Nat × Nat) :=
  let A := ancs ops
  let before (i j : Nat) : Bool := ((A[j]?).getD []).contains i
  (List.range ops.size).flatMap fun j => (List.range ops.size).filterMap fun c => match ops[j]?, ops[c]? with
    | some oj, some oc => if !loud oj.op && loud oc.op && !before c j && !before j c && (isLoad oj.op || (lays oj.op && decide (j < c))) then some (j, c) else none
    | _, _ => none

variable (P) in
inductive Chk (ops : Array Oper) (tr : List (Env × Heap)) (j c : Nat) : Prop
  | load {oj : Oper} {s s0 s1 : Env × Heap} {t : TypeId} {x : Operand} {a : Addr} {v : Value} (h1 : ops[j]? = some oj) (h2 : oj.op = .load t x) (h3 : tr[j]? = some s) (h4 : tr[c]? = some s0) (h5 : tr[c + 1]? = some s1)
      (h6 : evE s.1 x = some (.pointer (some a))) (h7 : loadA P s.2 t a = some v) (h8 : s0.2.size ≤ a.block ∨ loadA P s0.2 t a = some v) (h9 : s1.2.size ≤ a.block ∨ loadA P s1.2 t a = some v) : Chk ops tr j c
  | lay {oj : Oper} {s s' s1 : Env × Heap} {B : Blk} (h1 : ops[j]? = some oj) (h2 : isLoad oj.op = false) (h3 : tr[j]? = some s) (h4 : tr[j + 1]? = some s') (h5 : tr[c + 1]? = some s1)
      (h6 : s'.2[s.2.size]? = some (some B)) (h7 : s1.2[s.2.size]? = some (some B)) : Chk ops tr j c
  | skip {oj : Oper} {s : Env × Heap} {g : Nat} {b t : Bool} {d : Tmp} (h1 : ops[j]? = some oj) (h2 : oj.guard = some (g, b)) (h3 : tr[j]? = some s) (h4 : (ops[g]?).bind (·.dst) = some d) (h5 : lk s.1 d = some (.bool t)) (h6 : t = !b) : Chk ops tr j c
def Sizes : List (Env × Heap) → Prop
  | [] => True
  | [_] => True
  | a :: b :: r => a.2.size ≤ b.2.size ∧ Sizes (b :: r)
theorem Sizes.at : ∀ {tr : List (Env × Heap)}, Sizes tr → ∀ {j s s'}, tr[j]? = some s → tr[j + 1]? = some s' → s.2.size ≤ s'.2.size
  | [], _, j, s, s', h, _ => by simp at h
  | [_], _, j, s, s', _, h => by simp at h
  | a :: b :: r, hs, 0, s, s', h, h' => by simp at h h'; subst h h'; exact hs.1
  | a :: b :: r, hs, j + 1, s, s', h, h' => Sizes.at (tr := b :: r) hs.2 (by simpa using h) (by simpa using h')

theorem sameB_refl (B : Blk) : sameB (some (some B)) (some (some B)) = true := by
  simp [sameB, sameL_refl]
theorem sameO_refl (v : Value) : sameO (some v) v = true := by simp [sameO, sameV_refl]

theorem quiet_same {ev : Operand → Value} {op : Op} {H H' : Heap} {v : Value} (hl : loud op = false) (hn : lays op = false) (h : stepOp P ev op H = some (v, H')) : H' = H := by
  cases kind_of hl h with
  | pure _ _ => rfl
  | load _ _ _ => rfl
  | new _ hs =>
    exfalso
    unfold stepOp at h
    split at h <;> (try (simp [lays] at hn; done)) <;> (try (simp [loud] at hl; done)) <;> first
      | (cases h; done)
      | (simp only [Option.some.injEq, Prod.mk.injEq] at h; have := congrArg Array.size h.2; simp at this; done)
      | (obtain ⟨a, _, h2⟩ := map_some h; have := congrArg (fun x : Value × Heap => x.2.size) h2; simp at this; done)
      | (split at h <;> first
          | (cases h; done)
          | (simp only [Option.some.injEq, Prod.mk.injEq] at h; have := congrArg Array.size h.2; simp at this; done)
          | (obtain ⟨a, _, h2⟩ := map_some h; have := congrArg (fun x : Value × Heap => x.2.size) h2; simp at this; done)
          | (simp [loud] at hl; done)
          | (split at h <;> first
              | (cases h; done)
              | (simp only [Option.some.injEq, Prod.mk.injEq] at h; have := congrArg Array.size h.2; simp at this; done)
              | (obtain ⟨a, _, h2⟩ := map_some h; have := congrArg (fun x : Value × Heap => x.2.size) h2; simp at this; done)
              | (split at h <;> first
                  | (cases h; done)
                  | (simp only [Option.some.injEq, Prod.mk.injEq] at h; have := congrArg Array.size h.2; simp at this; done)
                  | (obtain ⟨a, _, h2⟩ := map_some h; have := congrArg (fun x : Value × Heap => x.2.size) h2; simp at this; done))))

end
end Go.Ab
namespace Go.Ab
section
variable {P : Program} {prim : CallF} {mk : MK} {N : Nat} {E : Env} {H : Heap} {ops : Array Oper} {rest : List Oper}

def OpX (P : Program) (E : Env) (op : Op) (H : Heap) (R : Value → Heap → Prop) : Prop := ∃ v H', OpE P E op H v H' ∧ R v H'
theorem OpX.mono {op : Op} {R R' : Value → Heap → Prop} (h : OpX P E op H R) (hR : ∀ v H', R v H' → R' v H') : OpX P E op H R' := by
  obtain ⟨v, H', h1, h2⟩ := h
  exact ⟨v, H', h1, hR _ _ h2⟩
def Own (lo : Nat) (H : Heap) (e : TypeId) (sz : Nat) (v : Value) (rows : List (List Value)) : Prop :=
  Sl H sz v rows ∧ (v = .slice none 0 0 ∨ ∃ a n cap B, v = .slice (some a) n cap ∧ a.spot = some (sz + 1) ∧ H[a.block]? = some (some B) ∧ B.ro = false ∧ B.elem = e ∧ lo ≤ a.block)
theorem Own.nil (lo : Nat) (H : Heap) (e : TypeId) (sz : Nat) : Own lo H e sz (.slice none 0 0) [] := ⟨Sl.nil H sz, .inl rfl⟩
theorem Own.fr {lo : Nat} {H H' : Heap} {e : TypeId} {sz : Nat} {v : Value} {rows : List (List Value)} (o : Own lo H e sz v rows) (h : Fr H H') : Own lo H' e sz v rows := by
  refine ⟨o.1.fr h, ?_⟩
  rcases o.2 with h1 | ⟨a, n, cap, B, h1, h2, h3, h4⟩
  · exact .inl h1
  · exact .inr ⟨a, n, cap, B, h1, h2, h.get h3, h4⟩
structure Kil (v : Value) (H H' : Heap) : Prop where
  size : H.size ≤ H'.size
  same : ∀ b, b < H.size → (∀ a n c, v = .slice (some a) n c → b ≠ a.block) → H'[b]? = H[b]?
theorem Kil.fr {lo : Nat} {H0 H H' : Heap} {e : TypeId} {sz : Nat} {v : Value} {rows : List (List Value)} (k : Kil v H H') (h : Fr H0 H) (o : Own lo H e sz v rows) (hlo : H0.size ≤ lo) : Fr H0 H' :=
  ⟨Nat.le_trans h.size k.size, fun b hb => by
    rw [k.same b (Nat.lt_of_lt_of_le hb h.size) fun a n c hv => ?_, h.same b hb]
    rcases o.2 with h1 | ⟨a', n', cap, B, h1, h2, h3, h4, h5, h6⟩
    · rw [hv] at h1; cases h1
    · rw [hv] at h1; cases h1; omega⟩
end
end Go.Ab
