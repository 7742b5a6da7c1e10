/- The road to a card of this seat: App, Step, Reg, Draw, Slots, Op, RegD. Each theorem holds for every input that its own premises speak of. -/
import Derived.Test.YtaaeeiheeihjaaaDoorA1
import Derived.RangeFuncLeaves
import Derived.RangeFuncRecord
import Derived.OrdersIn
import Derived.LoopNIn
import Derived.TacticsIn
set_option linter.all false
namespace Go.Ab
section
variable {P : Program}

theorem kill_rel {ρ : Ren} {H : Heap} {w : World} (hr : Rel P ρ H w) (b : Nat) : Rel P ρ (H.setIfInBounds b none) w ∧ Ext ρ H w ρ (H.setIfInBounds b none) w := by
  have hget : ∀ C c, (H.setIfInBounds b none)[c]? = some (some C) → c ≠ b ∧ H[c]? = some (some C) := by
    intro C c hC
    by_cases e : c = b
    · subst e
      by_cases hb : c < H.size
      · simp [hb] at hC
      · rw [Array.getElem?_setIfInBounds] at hC
        simp [hb] at hC
    · exact ⟨e, by rwa [Array.getElem?_setIfInBounds_ne (Ne.symm e)] at hC⟩
  refine ⟨⟨fun c C l hC hl => hr.row c C l (hget C c hC).2 hl, fun c d C D l m hC hD hl hm h => hr.inj c d C D l m (hget C c hC).2 (hget D d hD).2 hl hm h, fun c l hl => ?_, hr.glob⟩,
    ⟨fun _ _ h => h, fun _ _ h => .inl h, by simp, rfl, rfl, rfl, Nat.le_refl _, fun _ _ _ => rfl, ?_, fun c l h h0 => by rw [h0] at h; (cases h), fun c C _ hC => ⟨C, (hget C c hC).2, rfl⟩, fun c h1 h2 => by simp at h2; omega⟩⟩
  · simpa using hr.dom c l hl
  · rintro k ⟨c, C, l, hC, hro, hl, rfl⟩ _
    exact ⟨c, C, l, (hget C c hC).2, hro, hl, rfl⟩

theorem reuse_rel {ρ : Ren} {H : Heap} {w : World} (hr : Rel P ρ H w) {b : Nat} {B : Blk} {l : Loc} (hB : H[b]? = some (some B)) (hro : B.ro = false) (hl : ρ b = some l) {cur : Array Value} {e : TypeId} (hw : w.heap[l.blk]? = some (.cells cur e (0, 0)))
    {off : Nat} {cs cs' : List Value} (hc : All2 (CRel ρ) cs cs') (hlen : l.off + off + cs.length ≤ l.lim) (hlim : l.lim ≤ cur.size) :
    Rel P (ρ.put H.size ⟨l.blk, l.off + off, l.sz, l.lim⟩) ((H.setIfInBounds b none).push (some ⟨cs, B.elem, false⟩)) (w.setRow l.blk (cur.toList.take (l.off + off) ++ cs' ++ cur.toList.drop (l.off + off + cs'.length)).toArray) ∧
    Ext ρ H w (ρ.put H.size ⟨l.blk, l.off + off, l.sz, l.lim⟩) ((H.setIfInBounds b none).push (some ⟨cs, B.elem, false⟩)) (w.setRow l.blk (cur.toList.take (l.off + off) ++ cs' ++ cur.toList.drop (l.off + off + cs'.length)).toArray) := by
  have hb : b < H.size := (hr.dom _ _ hl).1
  have hle := Ren.put_le (l := ⟨l.blk, l.off + off, l.sz, l.lim⟩) hr.none
  obtain ⟨h1, h2, ccs, e', fr', hw', h3, h4, h5⟩ := hr.row b B l hB hl
  have hvl := hc.length
  have hcl : l.off + off + cs'.length ≤ cur.toList.length := by simp; omega
  have hget : ∀ C c, ((H.setIfInBounds b none).push (some ⟨cs, B.elem, false⟩))[c]? = some (some C) → c ≠ H.size → c ≠ b ∧ H[c]? = some (some C) := by
    intro C c hC hne
    rw [Array.getElem?_push, if_neg (by simpa using hne)] at hC
    by_cases e : c = b
    · subst e; simp [hb] at hC
    · exact ⟨e, by rwa [Array.getElem?_setIfInBounds_ne (Ne.symm e)] at hC⟩
  have hnew : ∀ C, ((H.setIfInBounds b none).push (some ⟨cs, B.elem, false⟩))[H.size]? = some (some C) → C = ⟨cs, B.elem, false⟩ := by
    intro C hC
    rw [Array.getElem?_push, if_pos (by simp)] at hC
    cases hC; rfl
  have hblk : ∀ C c m, H[c]? = some (some C) → ρ c = some m → c ≠ b → m.blk ≠ l.blk := by
    intro C c m hC hm hne he
    rcases hr.inj c b C B m l hC hB hm hl he with h | h
    · exact hne h
    · rw [hro] at h; exact absurd h.2 (by simp)
  refine ⟨⟨?_, ?_, ?_, hr.glob.mono hle⟩, ⟨hle, ?_, by simp, rfl, rfl, rfl, by simp, ?_, ?_, ?_, ?_, fun c h1 h2 => ⟨_, Ren.put_eq (by simp at h2; omega)⟩⟩⟩
  · intro c C m hC hm
    by_cases ec : c = H.size
    · subst ec
      have := hnew C hC; subst this
      rw [Ren.put_same] at hm; cases hm
      refine ⟨hlen, h2, _, e, (0, 0), setRow_heap w _ _ _ _ _ hw, ?_, fun _ => rfl, ?_⟩
      · simp; omega
      · intro i v hi
        obtain ⟨v', hv', hrel⟩ := hc.get i v hi
        refine ⟨v', ?_, hrel.mono hle⟩
        have hil : i < cs'.length := by have := (List.getElem?_eq_some_iff.1 hv').1; exact this
        rw [List.getElem?_toArray]
        have hs := splice_get (cs := cur.toList) (vs := cs') (off := l.off + off) hcl (l.off + off + i)
        unfold splice at hs
        rw [hs, if_pos (by omega), ← hv']
        congr 1; omega
    · obtain ⟨eb, hC'⟩ := hget C c hC ec
      have hm' : ρ c = some m := by simpa [Ren.put, ec] using hm
      obtain ⟨g1, g2, ccs2, e2, fr2, hw2, g3, g4, g5⟩ := hr.row c C m hC' hm'
      have hne := hblk C c m hC' hm' eb
      exact ⟨g1, g2, ccs2, e2, fr2, by rw [setRow_other _ _ _ _ hne]; exact hw2, g3, g4, fun i v hi => by
        obtain ⟨v', hv', hrel⟩ := g5 i v hi
        exact ⟨v', hv', hrel.mono hle⟩⟩
  · intro c d C D m n hC hD hm hn hmn
    by_cases ec : c = H.size
    · by_cases ed : d = H.size
      · exact .inl (ec.trans ed.symm)
      · subst ec
        rw [Ren.put_same] at hm; cases hm
        obtain ⟨eb, hD'⟩ := hget D d hD ed
        have hn' : ρ d = some n := by simpa [Ren.put, ed] using hn
        exact absurd hmn.symm (hblk D d n hD' hn' eb)
    · obtain ⟨eb, hC'⟩ := hget C c hC ec
      have hm' : ρ c = some m := by simpa [Ren.put, ec] using hm
      by_cases ed : d = H.size
      · subst ed
        rw [Ren.put_same] at hn; cases hn
        exact absurd hmn (hblk C c m hC' hm' eb)
      · obtain ⟨_, hD'⟩ := hget D d hD ed
        have hn' : ρ d = some n := by simpa [Ren.put, ed] using hn
        exact hr.inj c d C D m n hC' hD' hm' hn' hmn
  · intro c m hm
    by_cases ec : c = H.size
    · subst ec
      rw [Ren.put_same] at hm; cases hm
      have := (hr.dom _ _ hl).2
      simp; exact this
    · have hm' : ρ c = some m := by simpa [Ren.put, ec] using hm
      have := hr.dom _ _ hm'
      simp; omega
  · intro c m hm
    by_cases ec : c = H.size
    · exact .inr (by omega)
    · exact .inl (by simpa [Ren.put, ec] using hm)
  · intro k hk hn
    refine setRow_other _ _ _ _ ?_
    intro he; subst he
    exact hn ⟨b, B, l, hB, hro, hl, rfl⟩
  · rintro k ⟨c, C, m, hC, hCro, hm, rfl⟩ hk
    by_cases ec : c = H.size
    · subst ec
      rw [Ren.put_same] at hm; cases hm
      exact ⟨b, B, l, hB, hro, hl, rfl⟩
    · obtain ⟨_, hC'⟩ := hget C c hC ec
      exact ⟨c, C, m, hC', hCro, by simpa [Ren.put, ec] using hm, rfl⟩
  · intro c m hm h0
    by_cases ec : c = H.size
    · subst ec
      rw [Ren.put_same] at hm; cases hm
      exact .inr ⟨b, B, l, hB, hro, hl, rfl⟩
    · have hm' : ρ c = some m := by simpa [Ren.put, ec] using hm
      rw [h0] at hm'; cases hm'
  · intro c C hc hC
    exact ⟨C, (hget C c hC (Nat.ne_of_lt hc)).2, rfl⟩

theorem run_sliceCells {ρ : Ren} {H : Heap} {w : World} (hr : Rel P ρ H w) {sz : Nat} {x x' : Value} {cs : List Value} (h : sliceCells H sz x = some cs) (hx : VRel ρ x x') :
    cs.length = lenA x * sz ∧ (∃ a c, x' = .slice a (lenA x) c) ∧ ∃ cs', All2 (CRel ρ) cs cs' ∧ (∀ u ∈ cs', u.oneCell' = true) ∧ ∀ w', w'.heap = w.heap → (Builtin.firstCells sz (lenA x) x').run P w' = .ok cs'.toArray w' := by
  unfold sliceCells at h
  split at h
  · rename_i a n c
    have key : ∀ l : Loc, ρ a.block = some l → ∀ c', x' = .slice (some ⟨l.blk, l.off + a.off, none⟩) n c' → cs.length = n * sz ∧ (∃ a c, x' = .slice a n c) ∧
        ∃ cs', All2 (CRel ρ) cs cs' ∧ (∀ u ∈ cs', u.oneCell' = true) ∧ ∀ w', w'.heap = w.heap → (Builtin.firstCells sz n x').run P w' = .ok cs'.toArray w' := by
      intro l hl c' e
      obtain ⟨hlen, cs', hrel, hcell⟩ := cells_rel hr hl h
      refine ⟨hlen, ⟨_, _, e⟩, cs', hrel, ?_, fun w' hw' => ?_⟩
      · intro u hu
        obtain ⟨i, hi⟩ := List.getElem?_of_mem hu
        obtain ⟨y, _, hy⟩ := hrel.get' i u hi
        exact hy.oneCell
      · subst e
        have hcell' : ∀ j v, cs'[j]? = some v → w'.cell? ((⟨l.blk, l.off + a.off, none⟩ : Addr).add j) = some v := by
          intro j v hv
          have := hcell j v hv
          unfold World.cell? at this ⊢
          rw [hw']; exact this
        have := run_loadCells_list (P := P) w' ⟨l.blk, l.off + a.off, none⟩ cs' hcell'
        rw [← hrel.length, hlen] at this
        simpa [Builtin.firstCells] using this
    simp only [lenA]
    rcases hx.inv_slice with ⟨l, c', hl, _, _, _, _, e⟩ | ⟨l, a', hl, rfl, rfl, e⟩ | ⟨l, hl, _, _, e⟩
    · exact key l hl c' e
    · obtain ⟨hlen, cs', hrel, hcell⟩ := cells_rel hr hl h
      have h0 : cs = [] := List.eq_nil_of_length_eq_zero (by simpa using hlen)
      subst h0
      cases hrel
      refine ⟨by simp, ⟨_, _, e⟩, [], .nil, by simp, fun w' _ => ?_⟩
      subst e
      simp [Builtin.firstCells, loadCells, loadCellsFrom]
    · exact key l hl _ e
  · simp at h; subst h
    obtain ⟨rfl, rfl, rfl⟩ := hx.inv_nilslice
    refine ⟨by simp [lenA], ⟨none, 0, rfl⟩, [], .nil, by simp, fun w' _ => ?_⟩
    simp [Builtin.firstCells]
  · simp at h

theorem sizeA_info {t : TypeId} {n : Nat} (h : sizeA P t = some n) : ∃ i, P.info? t = some i ∧ i.size = n := by
  unfold sizeA at h
  cases hi : P.info? t with
  | none => simp [hi] at h
  | some i => simp [hi] at h; exact ⟨i, rfl, h⟩

theorem run_append_new {w : World} {t ty e : TypeId} {sz by_ n k cap : Nat} {z : Value} (hu : elemA P t = some e) (h1 : sizeA P e = some sz) (h2 : bytesA P e = some by_) (h3 : zeroA P e = some z)
    {a x' : Value} {ao : Option Addr} (ha : a = .slice ao n cap) {xa : Option Addr} {xc : Nat} (hxx : x' = .slice xa k xc) {cs ds : List Value}
    (hc : ∀ w', w'.heap = w.heap → (Builtin.firstCells sz n a).run P w' = .ok cs.toArray w') (hd : ∀ w', w'.heap = w.heap → (Builtin.firstCells sz k x').run P w' = .ok ds.toArray w') (hfull : cap < n + k) (hb : (n + k) * (by_ + 1) ≤ 2 ^ 47) :
    (Builtin.append_ #[t, t] ty #[a, x']).run P w = .ok (.slice (some ⟨w.heap.size, 0, none⟩) (n + k) (grownCap w (n + k) cap e))
      (w.drew.alloc (.cells (cs.toArray ++ ds.toArray ++ Builtin.zeroCells z.cells (grownCap w (n + k) cap e - (n + k))) e)) := by
  obtain ⟨i, hi, rfl⟩ := sizeA_info h1
  have hby : i.bytes = by_ := by simpa [bytesA, hi] using h2
  have hz : i.zero = some z := by simpa [zeroA, hi] using h3
  subst ha hxx
  have e1 := Nat.mul_add (n + k) by_ 1
  have h63 : ¬ (9223372036854775807 < ((n : Int) + (k : Int))) := by omega
  have hfit := growslice_fits (need := n + k) (old := cap) (bytes := i.bytes) hfull (by rw [hby]; omega)
  have h48 : ¬ (281474976710656 < Builtin.nextslicecap (n + k) cap * i.bytes) := by omega
  have hn : ¬ (n + k ≤ cap) := by omega
  have f1 := hc w.drew rfl
  have f2 := hd w.drew rfl
  simp [Builtin.append_, run_underlying (run_elemA hu), sizeOf, typeInfo, zeroValue, hi, hz, Builtin.lenOf, hn, h63, h48, Question.forced, f1, f2, newRow, grownCap]
  congr 2
  apply Array.ext'
  simp [List.append_assoc]

theorem run_append_in {w : World} {t ty e : TypeId} {sz n k cap b off : Nat} (hu : elemA P t = some e) (h1 : sizeA P e = some sz)
    {x' : Value} {xa : Option Addr} {xc : Nat} (hxx : x' = .slice xa k xc) {ds : List Value} (hd : (Builtin.firstCells sz k x').run P w = .ok ds.toArray w) (h1c : ∀ u ∈ ds, u.oneCell' = true) (hroom : n + k ≤ cap)
    {cur : Array Value} {e' : TypeId} (hw : w.heap[b]? = some (.cells cur e' (0, 0))) (hlen : off + n * sz + ds.length ≤ cur.size) :
    (Builtin.append_ #[t, t] ty #[.slice (some ⟨b, off, none⟩) n cap, x']).run P w = .ok (.slice (some ⟨b, off, none⟩) (n + k) cap)
      (w.setRow b (cur.toList.take (off + n * sz) ++ ds ++ cur.toList.drop (off + n * sz + ds.length)).toArray) := by
  obtain ⟨i, hi, rfl⟩ := sizeA_info h1
  subst hxx
  have hst := run_storeCells_at P b (off + n * i.size) e' ds 0 cur w hw (by omega) h1c
  simp only [Nat.add_zero] at hst
  simp [Builtin.append_, run_underlying (run_elemA hu), sizeOf, typeInfo, hi, Builtin.lenOf, hroom, hd, addr_add, hst]

theorem VRel.of_base {ρ : Ren} {v v' : Value} (h : Base ρ v v') : VRel ρ v v' := .one (.cell (.base h))

theorem append_new_rel {ρ : Ren} {H : Heap} {w : World} (hr : Rel P ρ H w) {e : TypeId} {sz : Nat} (hs : sizeA P e = some sz) {cs ds cs' ds' : List Value} {z : Value} (hzs : z.cells.size = sz) {n k cap' : Nat} (hcap : n + k ≤ cap')
    (hc : All2 (CRel ρ) cs cs') (hd : All2 (CRel ρ) ds ds') (hlc : cs.length = n * sz) (hld : ds.length = k * sz) :
    ∃ ρ', VRel ρ' (.slice (some ⟨H.size, 0, some (sz + 1)⟩) (n + k) (n + k)) (.slice (some ⟨w.heap.size, 0, none⟩) (n + k) cap') ∧
      Rel P ρ' (H.push (some ⟨cs ++ ds, e, false⟩)) (w.drew.alloc (.cells (cs'.toArray ++ ds'.toArray ++ Builtin.zeroCells z.cells (cap' - (n + k))) e)) ∧
      Ext ρ H w ρ' (H.push (some ⟨cs ++ ds, e, false⟩)) (w.drew.alloc (.cells (cs'.toArray ++ ds'.toArray ++ Builtin.zeroCells z.cells (cap' - (n + k))) e)) := by
  have hrel : All2 (CRel ρ) (cs ++ ds) ((cs'.toArray ++ ds'.toArray ++ Builtin.zeroCells z.cells (cap' - (n + k))).toList.take (cs ++ ds).length) := by
    have e1 : (cs ++ ds).length = (cs' ++ ds').length := by simp [hc.length, hd.length]
    have : (cs'.toArray ++ ds'.toArray ++ Builtin.zeroCells z.cells (cap' - (n + k))).toList = (cs' ++ ds') ++ (Builtin.zeroCells z.cells (cap' - (n + k))).toList := by simp
    rw [this, e1, List.take_left']
    · exact hc.append hd
    · rfl
  obtain ⟨r1, r2⟩ := alloc_rel hr.drew hs hrel
  refine ⟨_, VRel.of_base (.slice (l := ⟨w.heap.size, 0, sz, (cs'.toArray ++ ds'.toArray ++ Builtin.zeroCells z.cells (cap' - (n + k))).size⟩) (Ren.put_same _ _ _) rfl (Nat.le_refl _) hcap ?_), r1, (Ext.drew ρ H w).trans r2⟩
  show 0 + 0 + cap' * sz = (cs'.toArray ++ ds'.toArray ++ Builtin.zeroCells z.cells (cap' - (n + k))).size
  simp only [Array.size_append, List.size_toArray, size_zeroCells, ← hc.length, ← hd.length, hlc, hld, hzs, ← Nat.add_mul]
  rw [show n + k + (cap' - (n + k)) = cap' by omega]
  omega

theorem append_sim {ρ : Ren} {H H' : Heap} {w : World} (hr : Rel P ρ H w) {t ty : TypeId} {s x s' x' v : Value} (h : appendA P H t s x = some (v, H')) (hs : VRel ρ s s') (hx : VRel ρ x x') :
    ∃ v' ρ' w', (Builtin.append_ #[t, t] ty #[s', x']).run P w = .ok v' w' ∧ VRel ρ' v v' ∧ Rel P ρ' H' w' ∧ Ext ρ H w ρ' H' w' := by
  unfold appendA at h
  split at h
  rotate_left
  · simp at h
  rename_i e hel
  split at h
  rotate_left
  · simp at h
  rename_i sz by_ z base n cap xb k xc hsz hby hz
  split at h
  rotate_left
  · simp at h
  rename_i hcond
  obtain ⟨hsz0, hzs, hbound⟩ := hcond
  split at h
  rotate_left
  · simp at h
  rename_i c d hcc hdd
  obtain ⟨hlc, ⟨sa, sc, hs'⟩, c', hcrel, hc1, hcrun⟩ := run_sliceCells hr hcc hs
  obtain ⟨hld, ⟨xa, xc', hx'⟩, d', hdrel, hd1, hdrun⟩ := run_sliceCells hr hdd hx
  simp only [lenA] at *
  have hd0 := hdrun w rfl
  split at h
  · -- nil
    split at h
    rotate_left
    · simp at h
    rename_i hn0
    obtain ⟨rfl, rfl⟩ := hn0
    obtain ⟨-, -, es⟩ := hs.inv_nilslice
    have hc0 : c = [] := List.eq_nil_of_length_eq_zero (by simpa using hlc)
    subst hc0
    cases hcrel
    subst es
    split at h
    · rename_i hk
      subst hk
      simp at h
      obtain ⟨rfl, rfl⟩ := h
      refine ⟨.slice none 0 0, ρ, w, ?_, VRel.of_flat rfl, hr, Ext.refl _ _ _⟩
      obtain ⟨i, hi, rfl⟩ := sizeA_info hsz
      subst hx'
      have hd00 : d = [] := List.eq_nil_of_length_eq_zero (by simpa using hld)
      subst hd00
      cases hdrel
      simp [Builtin.append_, run_underlying (run_elemA hel), sizeOf, typeInfo, hi, Builtin.lenOf, hd0]
    · rename_i hk
      simp at h
      obtain ⟨rfl, rfl⟩ := h
      have hrun := run_append_new (ty := ty) (n := 0) (cap := 0) hel hsz hby hz (a := .slice none 0 0) rfl hx' (cs := []) (ds := d') hcrun hdrun (by omega) hbound
      obtain ⟨ρ', g1, g2, g3⟩ := append_new_rel hr hsz hzs (n := 0) (k := k) (cap' := grownCap w (0 + k) 0 e) (grownCap_ge _ _ _ _) (cs := []) .nil hdrel (by simp) hld
      refine ⟨_, ρ', _, hrun, ?_, by simpa using g2, by simpa using g3⟩
      simpa using g1
  · rename_i a
    split at h
    rotate_left
    · simp at h
    rename_i B hB
    split at h
    · rename_i hspot
      split at h
      rotate_left
      · simp at h
      rename_i hro
      obtain ⟨hro, helem⟩ := hro
      simp at h
      obtain ⟨rfl, rfl⟩ := h
      obtain ⟨hk1, hk2⟩ := kill_rel hr a.block
      -- a new row
      have grow : ∀ ao cap', s' = .slice ao n cap' → cap' < n + k → ∃ v' ρ' w', (Builtin.append_ #[t, t] ty #[s', x']).run P w = .ok v' w' ∧ VRel ρ' (.slice (some ⟨H.size, 0, some (sz + 1)⟩) (n + k) (n + k)) v' ∧ Rel P ρ' ((H.setIfInBounds a.block none).push (some ⟨c ++ d, e, false⟩)) w' ∧ Ext ρ H w ρ' ((H.setIfInBounds a.block none).push (some ⟨c ++ d, e, false⟩)) w' := by
        intro ao cap' es hlt
        have hrun := run_append_new (ty := ty) hel hsz hby hz es hx' hcrun hdrun hlt hbound
        obtain ⟨ρ', g1, g2, g3⟩ := append_new_rel hk1 hsz hzs (n := n) (k := k) (cap' := grownCap w (n + k) cap' e) (grownCap_ge _ _ _ _) hcrel hdrel hlc hld
        exact ⟨_, ρ', _, hrun, by simpa using g1, g2, hk2.trans g3⟩
      rcases hs.inv_slice with ⟨l, cap', hl, hsp, hn, hcc', hlim, es⟩ | ⟨l, a', hl, rfl, rfl, es⟩ | ⟨l, hl, hsp, hn, es⟩
      · by_cases hroom : n + k ≤ cap'
        · have hlsz : l.sz = sz := by rw [hsp] at hspot; simpa using hspot
          obtain ⟨h1, h2, ccs, e', fr', hw', h3, h4, h5⟩ := hr.row a.block B l hB hl
          have hfr := h4 hro
          subst hfr
          have hkey : (n + k) * sz ≤ cap' * sz := Nat.mul_le_mul_right _ hroom
          rw [hlsz] at hlim
          have hsum : (n + k) * sz = n * sz + k * sz := Nat.add_mul _ _ _
          have hd'l : d'.length = k * sz := by rw [← hdrel.length]; exact hld
          have hc'l : c'.length = n * sz := by rw [← hcrel.length]; exact hlc
          have hrun := run_append_in (ty := ty) (n := n) (off := l.off + a.off) hel hsz hx' hd0 hd1 hroom hw' (by rw [hd'l]; omega)
          obtain ⟨g1, g2⟩ := reuse_rel hr hB hro hl hw' (off := a.off) (hcrel.append hdrel) (by rw [List.length_append, hlc, hld]; omega) h3
          -- the two rows are one
          have hcur : (ccs.toList.drop (l.off + a.off)).take (n * sz) = c' := by
            have hrun0 := hcrun w rfl
            subst es
            simp only [Builtin.firstCells] at hrun0
            have hl2 := run_loadCells_list (P := P) w ⟨l.blk, l.off + a.off, none⟩ ((ccs.toList.drop (l.off + a.off)).take (n * sz)) (by
              intro j v hv
              rw [List.getElem?_take] at hv
              split at hv
              · rw [List.getElem?_drop] at hv
                rw [addr_add]
                have : ccs[l.off + a.off + j]? = some v := by simpa using hv
                simp [World.cell?, hw', this]
              · simp at hv)
            have hlen2 : ((ccs.toList.drop (l.off + a.off)).take (n * sz)).length = n * sz := by simp; omega
            rw [hlen2, hrun0] at hl2
            simp at hl2
            exact hl2.symm
          have hrow : ccs.toList.take (l.off + a.off) ++ (c' ++ d') ++ ccs.toList.drop (l.off + a.off + (c' ++ d').length) = ccs.toList.take (l.off + a.off + n * sz) ++ d' ++ ccs.toList.drop (l.off + a.off + n * sz + d'.length) := by
            rw [List.length_append, hc'l, ← Nat.add_assoc, List.take_add (i := l.off + a.off) (j := n * sz), hcur]
            simp [List.append_assoc]
          rw [hrow] at g1 g2
          subst es
          refine ⟨_, _, _, hrun, ?_, by rw [← helem]; exact g1, by rw [← helem]; exact g2⟩
          have := VRel.of_base (.slice (a := ⟨H.size, 0, some (sz + 1)⟩) (n := n + k) (cap := n + k) (cap' := cap') (Ren.put_same ρ H.size ⟨l.blk, l.off + a.off, l.sz, l.lim⟩) (by simp [hlsz]) (Nat.le_refl _) hroom (by simp [hlsz]; exact hlim))
          simpa using this
        · exact grow _ _ es (by omega)
      · by_cases hk0 : k = 0
        · subst hk0
          have hd00 : d = [] := List.eq_nil_of_length_eq_zero (by simpa using hld)
          have hc00 : c = [] := List.eq_nil_of_length_eq_zero (by simpa using hlc)
          subst hd00 hc00
          cases hdrel
          obtain ⟨h1, h2, ccs, e', fr', hw', h3, h4, h5⟩ := hr.row a.block B l hB hl
          have hfr := h4 hro
          subst hfr
          obtain ⟨g1, g2⟩ := reuse_rel hr hB hro hl hw' (off := 0) (cs := []) (cs' := []) .nil (by simp; omega) h3
          have hself : (ccs.toList.take (l.off + 0) ++ [] ++ ccs.toList.drop (l.off + 0 + ([] : List Value).length)).toArray = ccs := by simp
          rw [hself, setRow_self w l.blk ccs e' (0, 0) hw'] at g1 g2
          obtain ⟨i, hi, rfl⟩ := sizeA_info hsz
          subst es hx'
          refine ⟨.slice (some a') 0 0, _, w, ?_, VRel.of_base (.sliceEnd (Ren.put_same _ _ _)), by rw [← helem]; exact g1, by rw [← helem]; exact g2⟩
          simp [Builtin.append_, run_underlying (run_elemA hel), sizeOf, typeInfo, hi, Builtin.lenOf, hd0, storeCells]
        · exact grow _ _ es (by omega)
      · rw [hsp] at hspot; simp at hspot
    · split at h
      · simp at h
      · rename_i hsp0 hsp1
        simp at hsp1
        have hform : ∃ ao, s' = .slice ao n cap := by
          rcases hs.inv_slice with ⟨l, cap', hl, hsp, _, _, _, es⟩ | ⟨l, a', hl, rfl, rfl, es⟩ | ⟨l, hl, hsp, hn, es⟩
          · rw [hsp1] at hsp; simp at hsp
          · exact ⟨_, es⟩
          · exact ⟨_, es⟩
        obtain ⟨ao, es⟩ := hform
        split at h
        · rename_i hle
          split at h
          rotate_left
          · simp at h
          rename_i hk
          subst hk
          simp at h
          obtain ⟨rfl, rfl⟩ := h
          refine ⟨s', ρ, w, ?_, hs, hr, Ext.refl _ _ _⟩
          have hd00 : d = [] := List.eq_nil_of_length_eq_zero (by simpa using hld)
          subst hd00
          cases hdrel
          obtain ⟨i, hi, rfl⟩ := sizeA_info hsz
          subst es hx'
          cases ao <;> simp [Builtin.append_, run_underlying (run_elemA hel), sizeOf, typeInfo, hi, Builtin.lenOf, hd0, storeCells] <;> omega
        · rename_i hgt
          simp at h
          obtain ⟨rfl, rfl⟩ := h
          have hrun := run_append_new (ty := ty) hel hsz hby hz es hx' hcrun hdrun (by omega) hbound
          obtain ⟨ρ', g1, g2, g3⟩ := append_new_rel hr hsz hzs (n := n) (k := k) (cap' := grownCap w (n + k) cap e) (grownCap_ge _ _ _ _) hcrel hdrel hlc hld
          exact ⟨_, ρ', _, hrun, g1, g2, g3⟩
end
end Go.Ab
namespace Go.Ab
section
variable {P : Program} {ev : Operand → Value}

def PartsRel (ρ : Ren) (p q : Nat × Value) : Prop := p.1 = q.1 ∧ VRel ρ p.2 q.2

theorem fillCells_rel {ρ : Ren} : ∀ {x y : List Value}, All2 (CRel ρ) x y → ∀ (k off : Nat) (A B : Array Value), All2 (CRel ρ) A.toList B.toList →
    All2 (CRel ρ) ((x.zipIdx k).foldl (fun (cs : Array Value) (p : Value × Nat) => cs.setIfInBounds (off + p.2) p.1) A).toList
      ((y.zipIdx k).foldl (fun (cs : Array Value) (p : Value × Nat) => cs.setIfInBounds (off + p.2) p.1) B).toList
  | _, _, .nil, _, _, _, _, h => by simpa using h
  | _, _, .cons h t, k, off, A, B, hA => by
    simp only [List.zipIdx_cons, List.foldl_cons]
    exact fillCells_rel t (k + 1) off _ _ (by simp only [Array.toList_setIfInBounds]; exact hA.set _ h)

theorem fill_rel {ρ : Ren} {place : Nat → Option (Nat × Nat)} : ∀ {parts parts' : List (Nat × Value)}, All2 (PartsRel ρ) parts parts' → (parts.all fun p => notTuple p.2) = true → ∀ {A B r : Array Value}, All2 (CRel ρ) A.toList B.toList →
    Instr.fill place A parts = some r → ∃ r', Instr.fill place B parts' = some r' ∧ All2 (CRel ρ) r.toList r'.toList
  | _, _, .nil, _, A, B, r, hA, h => by
    simp [Instr.fill] at h
    subst h
    exact ⟨B, by simp [Instr.fill], hA⟩
  | (i, v) :: rest, (j, u) :: rest', .cons hp ht, hn, A, B, r, hA, h => by
    obtain ⟨e, hv⟩ := hp
    simp only at e hv
    subst e
    simp only [List.all_cons, Bool.and_eq_true] at hn
    have hc := hv.cells hn.1
    have hsz : v.cells.size = u.cells.size := by simpa using hc.length
    have hAB : A.size = B.size := by simpa using hA.length
    simp only [Instr.fill] at h ⊢
    cases hpl : place i with
    | none => simp [hpl] at h
    | some os =>
      obtain ⟨off, size⟩ := os
      simp only [hpl] at h ⊢
      rw [hsz, hAB] at h
      split at h
      · simp at h
      · rename_i hok
        rw [if_neg hok]
        refine fill_rel ht hn.2 ?_ h
        have := fillCells_rel hc 0 off A B hA
        show All2 (CRel ρ) (v.cells.zipIdx.foldl (fun (cs : Array Value) (p : Value × Nat) => cs.setIfInBounds (off + p.2) p.1) A).toList (u.cells.zipIdx.foldl (fun (cs : Array Value) (p : Value × Nat) => cs.setIfInBounds (off + p.2) p.1) B).toList
        rw [← Array.foldl_toList, ← Array.foldl_toList, Array.toList_zipIdx, Array.toList_zipIdx]
        exact this

theorem parts_rel {ρ : Ren} {ev' : Operand → Value} {parts : Array (Nat × Operand)} (he : ∀ x ∈ (parts.toList.map (·.2)), VRel ρ (ev x) (ev' x)) :
    All2 (PartsRel ρ) (parts.toList.map fun (i, x) => (i, ev x)) (parts.map fun (i, x) => (i, ev' x)).toList := by
  rw [Array.toList_map]
  refine All2.mapBoth fun p hp => ⟨rfl, he _ ?_⟩
  exact List.mem_map.2 ⟨p, hp, rfl⟩

theorem flat_cells_rel {ρ : Ren} {z : Value} (h : flat z = true) : All2 (CRel ρ) z.cells.toList z.cells.toList := by
  refine All2.refl fun a ha => .base (.flat ?_)
  unfold flat at h
  split at h
  · exact List.all_eq_true.1 h a ha
  · rename_i hz
    have : z.cells = #[z] := by cases z <;> first | rfl | exact absurd rfl (hz _)
    rw [this] at ha
    simp at ha; subst ha; exact h

theorem mapM_run {α β : Type} {f : α → Option β} {g : α → Sem β} (h : ∀ a b w, f a = some b → (g a).run P w = .ok b w) : ∀ {l : List α} {r : List β}, l.mapM f = some r → ∀ w, (l.mapM g).run P w = .ok r w
  | [], r, hr, w => by simp at hr; subst hr; simp
  | a :: l, r, hr, w => by
    simp only [List.mapM_cons] at hr ⊢
    cases hf : f a with
    | none => simp [hf] at hr
    | some b =>
      cases hm : l.mapM f with
      | none => simp [hf, hm] at hr
      | some r' =>
        simp [hf, hm] at hr
        subst hr
        simp [h a b _ hf, mapM_run h hm]

theorem sim_build {t : TypeId} {parts : Array (Nat × Operand)} {v : Value} (h : buildA P t (parts.toList.map fun (i, x) => (i, ev x)) = some v) : PureSim P ev (.build t parts) v := fun ρ ev' he => by
  have hp := parts_rel (ρ := ρ) (ev := ev) (ev' := ev') (parts := parts) (fun x hx => he x (by simp [Op.operands]; simpa using hx))
  unfold buildA at h
  split at h
  rotate_left
  · simp at h
  rename_i z hz
  split at h
  rotate_left
  · simp at h
  rename_i hcond
  obtain ⟨hfl, hnt⟩ := hcond
  have hzc := flat_cells_rel (ρ := ρ) hfl
  split at h
  · rename_i fields hu
    split at h
    · rename_i places hpl
      cases hf : Instr.fill (places[·]?) z.cells (parts.toList.map fun (i, x) => (i, ev x)) with
      | none => simp [hf] at h
      | some r =>
        simp [hf] at h; subst h
        obtain ⟨r', hr', hrel⟩ := fill_rel hp hnt hzc hf
        refine ⟨.agg r', .one (.agg hrel), fun o w ho => ?_⟩
        have hm : (fields.mapM fun f => (do pure (f.offset, ← sizeOf f.type) : Sem (Nat × Nat))).run P w = .ok places.toArray w := by
          rw [Array.mapM_eq_mapM_toList, Sem.run_map]
          rw [mapM_run (P := P) (f := fun (f : Field) => (sizeA P f.type).map fun n => (f.offset, n)) (g := fun (f : Field) => (do pure (f.offset, ← sizeOf f.type) : Sem (Nat × Nat))) ?_ hpl w]
          · rfl
          · intro a b w' hab
            cases hs : sizeA P a.type with
            | none => simp [hs] at hab
            | some n => simp [hs] at hab; subst hab; simp [run_sizeA hs]
        have hr2 : Instr.fill (fun x => places.toArray[x]?) z.cells (parts.map fun (i, x) => (i, ev' x)).toList = some r' := by simpa using hr'
        simp only [execOp, ho, Instr.build, Sem.run_bind, run_zeroA hz, Result.andThen_ok, underlying, run_program, hu, Sem.run_pure, hm, hr2]
    · simp at h
  · rename_i n e hu
    split at h
    · rename_i size hs
      cases hf : Instr.fill (fun i => some (i * size, size)) z.cells (parts.toList.map fun (i, x) => (i, ev x)) with
      | none => simp [hf] at h
      | some r =>
        simp [hf] at h; subst h
        obtain ⟨r', hr', hrel⟩ := fill_rel hp hnt hzc hf
        refine ⟨.agg r', .one (.agg hrel), fun o w ho => ?_⟩
        simp only [execOp, ho, Instr.build, Sem.run_bind, run_zeroA hz, Result.andThen_ok, underlying, run_program, hu, Sem.run_pure, run_sizeA hs, hr']
    · simp at h
  · simp at h

def NewSim (P : Program) (ev : Operand → Value) (op : Op) (v : Value) (B : Blk) (n : Nat) : Prop :=
  ∀ (ρ : Ren) (ev' : Operand → Value), (∀ x ∈ op.operands, VRel ρ (ev x) (ev' x)) → ∃ (cs' : Array Value) (sz : Nat), sizeA P B.elem = some sz ∧ All2 (CRel ρ) B.cells (cs'.toList.take B.cells.length) ∧ B.ro = false ∧
    ∀ (w : World), ∃ v', (∀ (o : Oper), o.op = op → (execOp ev' o).run P w = .ok (.value v') (w.alloc (.cells cs' B.elem))) ∧
      ∀ ρ' : Ren, ρ' n = some ⟨w.heap.size, 0, sz, cs'.size⟩ → VRel ρ' v v'

theorem new_ptr {v : Value} {B : Blk} {n : Nat} {op : Op} (hv : v = .pointer (some ⟨n, 0, none⟩))
    (h : ∀ (ρ : Ren) (ev' : Operand → Value), (∀ x ∈ op.operands, VRel ρ (ev x) (ev' x)) → ∃ (cs' : Array Value) (sz : Nat), sizeA P B.elem = some sz ∧ All2 (CRel ρ) B.cells (cs'.toList.take B.cells.length) ∧ B.ro = false ∧
      ∀ (w : World) (o : Oper), o.op = op → (execOp ev' o).run P w = .ok (.value (.pointer (some ⟨w.heap.size, 0, none⟩))) (w.alloc (.cells cs' B.elem))) : NewSim P ev op v B n := by
  intro ρ ev' he
  obtain ⟨cs', sz, h1, h2, h3, h4⟩ := h ρ ev' he
  refine ⟨cs', sz, h1, h2, h3, fun w => ⟨_, h4 w, fun ρ' hρ => ?_⟩⟩
  subst hv
  exact VRel.of_ptr (a := ⟨n, 0, none⟩) hρ

theorem sizeA_of_info {t : TypeId} {i : TypeInfo} (h : P.info? t = some i) : sizeA P t = some i.size := by simp [sizeA, h]
theorem zeroA_info {t : TypeId} {z : Value} (h : zeroA P t = some z) : ∃ i, P.info? t = some i ∧ i.zero = some z := by
  unfold zeroA at h
  cases hi : P.info? t with
  | none => simp [hi] at h
  | some i => simp [hi] at h; exact ⟨i, rfl, h⟩

theorem sim_alloc {e : TypeId} {z : Value} (hz : zeroA P e = some z) (hf : flat z = true) (H : Heap) : NewSim P ev (.alloc e) (newA H e z.cells.toList).1 ⟨z.cells.toList, e, false⟩ H.size := by
  refine new_ptr rfl fun ρ ev' he => ?_
  obtain ⟨i, hi, _⟩ := zeroA_info hz
  refine ⟨z.cells, i.size, sizeA_of_info hi, ?_, rfl, fun w o ho => ?_⟩
  · have : z.cells.toList.take z.cells.toList.length = z.cells.toList := List.take_length
    rw [this]; exact flat_cells_rel hf
  · simp [execOp, ho, Instr.alloc, run_zeroA hz, newVar, newRow]

theorem sim_box {e : TypeId} {x : Operand} {sz : Nat} (hs : sizeA P e = some sz) (hn : notTuple (ev x) = true) (H : Heap) : NewSim P ev (.box e x) (newA H e (ev x).cells.toList).1 ⟨(ev x).cells.toList, e, false⟩ H.size := by
  refine new_ptr rfl fun ρ ev' he => ?_
  have hx := (he x (by simp [Op.operands])).cells hn
  refine ⟨(ev' x).cells, sz, hs, ?_, rfl, fun w o ho => ?_⟩
  · rw [show (ev x).cells.toList.length = (ev' x).cells.toList.length from hx.length, List.take_length]
    exact hx
  · simp [execOp, ho, Instr.box, newVar, newRow]

theorem zeros_eq (z : Value) (n : Nat) : (Array.range n).map (fun i => z.cells[i % z.cells.size]!) = (zerosA z n).toArray := by
  unfold zerosA
  apply Array.ext'
  simp

theorem zeros_rel {ρ : Ren} {z : Value} (hf : flat z = true) (h0 : 0 < z.cells.size) (n : Nat) : All2 (CRel ρ) (zerosA z n) (zerosA z n) := by
  refine All2.refl fun a ha => ?_
  unfold zerosA at ha
  obtain ⟨i, _, rfl⟩ := List.mem_map.1 ha
  have hlt : i % z.cells.size < z.cells.size := Nat.mod_lt _ h0
  have : z.cells[i % z.cells.size]! ∈ z.cells.toList := by
    rw [getElem!_pos z.cells _ hlt]
    exact Array.mem_toList_iff.2 (Array.getElem_mem hlt)
  obtain ⟨j, hj⟩ := List.getElem?_of_mem this
  obtain ⟨b, hb, hr⟩ := (flat_cells_rel (ρ := ρ) hf).get j _ hj
  rw [hj] at hb; cases hb
  exact hr

theorem sim_makeSlice {t : TypeId} {l c : Operand} {H H' : Heap} {v : Value} (h : makeSliceA P H t (ev l) (ev c) = some (v, H')) : ∃ B, H' = H.push (some B) ∧ NewSim P ev (.makeSlice t l c) v B H.size := by
  unfold makeSliceA at h
  split at h
  rotate_left
  · simp at h
  rename_i k1 ln k2 cp e hl hc hel
  split at h
  rotate_left
  · simp at h
  rename_i sz by_ z hsz hby hz
  split at h
  rotate_left
  · simp at h
  rename_i hcond
  obtain ⟨c1, c2, c3, c4, c5, c6, c7⟩ := hcond
  simp at h
  obtain ⟨rfl, rfl⟩ := h
  refine ⟨_, rfl, fun ρ ev' he => ?_⟩
  have h1 := he l (by simp [Op.operands])
  have h2 := he c (by simp [Op.operands])
  rw [hl] at h1; rw [hc] at h2
  have e1 := h1.inv_int
  have e2 := h2.inv_int
  refine ⟨(zerosA z (cp.toNat * sz)).toArray, sz, hsz, ?_, rfl, fun w => ⟨.slice (some ⟨w.heap.size, 0, none⟩) ln.toNat cp.toNat, fun o ho => ?_, fun ρ' hρ => ?_⟩⟩
  · simp only [List.take_length]
    exact zeros_rel c7 (by omega) _
  · obtain ⟨i, hi, rfl⟩ := sizeA_info hsz
    have hby' : i.bytes = by_ := by simpa [bytesA, hi] using hby
    have hz' : i.zero = some z := by simpa [zeroA, hi] using hz
    have w1 : IntKind.i64.wrap ln = ln := by simp [IntKind.wrap, IntKind.bits, IntKind.signed]; omega
    have w2 : IntKind.i64.wrap cp = cp := by simp [IntKind.wrap, IntKind.bits, IntKind.signed]; omega
    have t1 : ¬ (cp < 0) := by omega
    have t2 : ¬ (281474976710656 < (i.bytes : Int) * cp) := by rw [hby']; omega
    have t3 : ¬ (ln < 0) := by omega
    have t4 : ¬ (cp < ln) := by omega
    simp [execOp, ho, e1, e2, Instr.makeSlice, underlying, run_elemA hel, asInt, asIntOf, typeInfo, hi, w1, w2, t1, t2, t3, t4, run_sizeA hsz, newRow]
    have hze : ∀ w' : World, (zeroValue e).run P w' = .ok z w' := fun w' => run_zeroA hz w'
    split
    · rename_i h0
      simp [h0, zerosA]
      congr 2
      apply Array.ext'
      simp
    · simp only [hze, Result.andThen_ok, zeros_eq]
  · refine VRel.of_base (.slice (l := ⟨w.heap.size, 0, sz, (zerosA z (cp.toNat * sz)).toArray.size⟩) hρ rfl (by omega) (Nat.le_refl _) ?_)
    simp [zerosA]

theorem sim_buildSlice {t : TypeId} {len : Nat} {parts : Array (Nat × Operand)} {H H' : Heap} {v : Value} (h : buildSliceA P H t len (parts.toList.map fun (i, x) => (i, ev x)) = some (v, H')) : ∃ B, H' = H.push (some B) ∧ NewSim P ev (.buildSlice t len parts) v B H.size := by
  unfold buildSliceA at h
  split at h
  rotate_left
  · simp at h
  rename_i e hel
  split at h
  rotate_left
  · simp at h
  rename_i sz z hsz hz
  split at h
  rotate_left
  · simp at h
  rename_i hcond
  obtain ⟨c1, c2, c3, c4, c5⟩ := hcond
  split at h
  rotate_left
  · simp at h
  rename_i cells hf
  simp at h
  obtain ⟨rfl, rfl⟩ := h
  refine ⟨_, rfl, fun ρ ev' he => ?_⟩
  have hp := parts_rel (ρ := ρ) (ev := ev) (ev' := ev') (parts := parts) (fun x hx => he x (by simp [Op.operands]; simpa using hx))
  have hzr : All2 (CRel ρ) (zerosA z (len * sz)).toArray.toList (zerosA z (len * sz)).toArray.toList := zeros_rel c4 (by omega) _
  obtain ⟨r', hr', hrel⟩ := fill_rel hp c5 hzr hf
  refine ⟨r', sz, hsz, ?_, rfl, fun w => ⟨.slice (some ⟨w.heap.size, 0, none⟩) len len, fun o ho => ?_, fun ρ' hρ => ?_⟩⟩
  · rw [show cells.toList.length = r'.toList.length from hrel.length, List.take_length]; exact hrel
  · have t1 : ¬ (16777216 < len * sz) := by omega
    have hze : ∀ w' : World, (zeroValue e).run P w' = .ok z w' := fun w' => run_zeroA hz w'
    by_cases h0 : len * sz = 0
    · have hz0 : zerosA z (len * sz) = [] := by simp [h0, zerosA]
      rw [hz0] at hr'
      simp [execOp, ho, Instr.buildSlice, underlying, run_elemA hel, run_sizeA hsz, h0]
      have : (Array.map (fun x => (default : Value)) (Array.range 0)) = #[] := by apply Array.ext'; simp
      simp only [this]
      have h2 : Instr.fill (fun i => some (i * sz, sz)) #[] (parts.map fun (i, x) => (i, ev' x)).toList = some r' := hr'
      simp at h2
      simp [h2, newRow]
    · simp [execOp, ho, Instr.buildSlice, underlying, run_elemA hel, run_sizeA hsz, t1, h0, hze, zeros_eq]
      have h2 : Instr.fill (fun i => some (i * sz, sz)) (zerosA z (len * sz)).toArray (parts.map fun (i, x) => (i, ev' x)).toList = some r' := hr'
      simp at h2
      simp [h2, newRow]
  · refine VRel.of_base (.slice (l := ⟨w.heap.size, 0, sz, r'.size⟩) hρ rfl (Nat.le_refl _) (Nat.le_refl _) ?_)
    have e1 : ∀ {place : Nat → Option (Nat × Nat)} {l : List (Nat × Value)} {A r : Array Value}, Instr.fill place A l = some r → r.size = A.size := by
      intro place l
      induction l with
      | nil => intro A r h; simp [Instr.fill] at h; rw [h]
      | cons p l ih =>
        intro A r h
        obtain ⟨i, v⟩ := p
        simp only [Instr.fill] at h
        cases hpl : place i with
        | none => simp [hpl] at h
        | some os =>
          obtain ⟨off, size⟩ := os
          simp only [hpl] at h
          split at h
          · simp at h
          · rw [ih h]
            have : ∀ (l : List (Value × Nat)) (A : Array Value), (l.foldl (fun (cs : Array Value) (p : Value × Nat) => cs.setIfInBounds (off + p.2) p.1) A).size = A.size := by
              intro l
              induction l with
              | nil => intro A; rfl
              | cons x l ih => intro A; simp only [List.foldl_cons]; rw [ih]; simp
            rw [← Array.foldl_toList]
            exact this _ A
    have := e1 hr'
    simp [zerosA] at this
    simp [this]
end
end Go.Ab
namespace Go.Ab
section
variable {P : Program}

inductive Kind (P : Program) (ev : Operand → Value) (op : Op) (H : Heap) : Value → Heap → Prop
  | pure {v : Value} : (∀ t x, op ≠ .load t x) → PureSim P ev op v → Kind P ev op H v H
  | load {t : TypeId} {x : Operand} {a : Addr} {v : Value} : op = .load t x → ev x = .pointer (some a) → loadA P H t a = some v → Kind P ev op H v H
  | new {v : Value} {B : Blk} : (∀ t x, op ≠ .load t x) → NewSim P ev op v B H.size → Kind P ev op H v (H.push (some B))

theorem map_some {α β : Type} {o : Option α} {f : α → β} {b : β} (h : o.map f = some b) : ∃ a, o = some a ∧ f a = b := by
  cases o with
  | none => simp at h
  | some a => exact ⟨a, rfl, by simpa using h⟩

theorem kind_of {ev : Operand → Value} {op : Op} {H H' : Heap} {v : Value} (hl : loud op = false) (h : stepOp P ev op H = some (v, H')) : Kind P ev op H v H' := by
  unfold stepOp at h
  split at h
  · simp at h; obtain ⟨rfl, rfl⟩ := h; exact .pure (by simp) (sim_move _)
  · simp at h; obtain ⟨rfl, rfl⟩ := h; exact .pure (by simp) (sim_assign _)
  · split at h
    · simp at h; obtain ⟨rfl, rfl⟩ := h; exact .pure (by simp) (sim_pick ‹_›)
    · simp at h
  · split at h
    · split at h
      · simp only [newA, Option.some.injEq, Prod.mk.injEq] at h; obtain ⟨rfl, rfl⟩ := h; exact .new (by simp) (by have := sim_alloc (P := P) (ev := ev) ‹_› ‹_› H; simp only [newA] at this; exact this)
      · simp at h
    · simp at h
  · split at h
    · split at h
      · simp only [newA, Option.some.injEq, Prod.mk.injEq] at h; obtain ⟨rfl, rfl⟩ := h; exact .new (by simp) (by have := sim_box (P := P) (ev := ev) ‹_› ‹_› H; simp only [newA] at this; exact this)
      · simp at h
    · simp at h
  · obtain ⟨a, h1, h2⟩ := map_some h; cases h2; exact .pure (by simp) (sim_build h1)
  · obtain ⟨B, rfl, hs⟩ := sim_buildSlice h; exact .new (by simp) hs
  · split at h
    · obtain ⟨a, h1, h2⟩ := map_some h; cases h2; exact .load rfl ‹_› h1
    · simp at h
  · simp [loud] at hl
  · split at h
    · simp at h; obtain ⟨rfl, rfl⟩ := h; exact .pure (by simp) (sim_nilCheck ‹_›)
    · simp at h; obtain ⟨rfl, rfl⟩ := h; exact .pure (by simp) (sim_nilCheckF ‹_›)
    · simp at h
  · obtain ⟨a, h1, h2⟩ := map_some h; cases h2; exact .pure (by simp) (sim_bin h1)
  · split at h
    · obtain ⟨a, h1, h2⟩ := map_some h; cases h2; exact .pure (by simp) (sim_un ‹_› h1)
    · simp at h
  · split at h
    · obtain ⟨a, h1, h2⟩ := map_some h; cases h2; exact .pure (by simp) (sim_convert ‹_› h1)
    · simp at h
  · split at h
    · simp only [Option.some.injEq, Prod.mk.injEq] at h; obtain ⟨rfl, rfl⟩ := h; exact .pure (by simp) (sim_makeFunc ‹_›)
    · simp at h
  · obtain ⟨B, rfl, hs⟩ := sim_makeSlice h; exact .new (by simp) hs
  · obtain ⟨a, h1, h2⟩ := map_some h; cases h2; exact .pure (by simp) (sim_slice h1)
  · split at h
    · split at h
      · simp at h; obtain ⟨rfl, rfl⟩ := h; exact .pure (by simp) (sim_fieldAddr ‹_› ‹_› ‹_›)
      · simp at h
    · simp at h
  · split at h
    · obtain ⟨a, h1, h2⟩ := map_some h; cases h2; exact .pure (by simp) (sim_field ‹_› ‹_› h1)
    · simp at h
  · obtain ⟨a, h1, h2⟩ := map_some h; cases h2; exact .pure (by simp) (sim_indexAddr h1)
  · obtain ⟨a, h1, h2⟩ := map_some h; cases h2; exact .pure (by simp) (sim_index h1)
  · split at h
    · obtain ⟨a, h1, h2⟩ := map_some h; cases h2; exact .pure (by simp) (sim_extract ‹_› h1)
    · simp at h
  · rename_i b args ts
    split at h
    · simp [loud] at hl
    · simp [loud] at hl
    · rename_i a n c t r e1 e2
      split at h
      · simp at h; obtain ⟨rfl, rfl⟩ := h
        cases hargs : args.toList with
        | nil => simp [hargs] at e1
        | cons x xs =>
          cases xs with
          | cons _ _ => simp [hargs] at e1
          | nil =>
            simp [hargs] at e1
            exact .pure (by simp) (sim_len_slice hargs e2 e1 ‹_›)
      · simp at h
    · rename_i s t r e1 e2
      split at h
      · simp at h; obtain ⟨rfl, rfl⟩ := h
        cases hargs : args.toList with
        | nil => simp [hargs] at e1
        | cons x xs =>
          cases xs with
          | cons _ _ => simp [hargs] at e1
          | nil =>
            simp [hargs] at e1
            exact .pure (by simp) (sim_len_string hargs e2 e1 ‹_›)
      · simp at h
    · split at h
      · obtain ⟨a, h1, h2⟩ := map_some h; cases h2; exact .pure (by simp) (sim_max ‹_› h1)
      · simp at h
    · split at h
      · obtain ⟨a, h1, h2⟩ := map_some h; cases h2; exact .pure (by simp) (sim_min ‹_› h1)
      · simp at h
    · simp at h
  · simp at h

def Goes (P : Program) (ρ : Ren) (H : Heap) (w : World) (ev' : Operand → Value) (o : Oper) (v : Value) (H' : Heap) : Prop :=
  ∃ nx w' ρ', (execOp ev' o).run P w = .ok nx w' ∧ ((∃ v', nx = .value v' ∧ VRel ρ' v v') ∨ (nx = .skip ∧ v = undef)) ∧ Rel P ρ' H' w' ∧ Ext ρ H w ρ' H' w'

theorem goes_kind {ρ : Ren} {H H' : Heap} {w : World} (hr : Rel P ρ H w) {ev ev' : Operand → Value} {o : Oper} {v : Value} (hk : Kind P ev o.op H v H') (he : ∀ x ∈ o.op.operands, VRel ρ (ev x) (ev' x)) : Goes P ρ H w ev' o v H' := by
  cases hk with
  | pure _ h =>
    obtain ⟨v', hv, hrun⟩ := h ρ ev' he
    exact ⟨_, w, ρ, hrun o w rfl, .inl ⟨v', rfl, hv⟩, hr, Ext.refl _ _ _⟩
  | load ho hx h =>
    rename_i t x a
    have h1 := he x (by simp [ho, Op.operands])
    rw [hx] at h1
    obtain ⟨l, hl, e⟩ := h1.inv_ptr
    obtain ⟨v', hv, hrun⟩ := load_rel hr hl h
    exact ⟨_, w, ρ, by simp [execOp, ho, e, Instr.loadAt, Instr.sureAddr, hrun], .inl ⟨v', rfl, hv⟩, hr, Ext.refl _ _ _⟩
  | @new v B _ h =>
    obtain ⟨cs', sz, hs, hc, hro, hrun⟩ := h ρ ev' he
    obtain ⟨v', hrun, hv⟩ := hrun w
    obtain ⟨cells, elem, ro⟩ := B
    simp only at *
    subst hro
    obtain ⟨r1, r2⟩ := alloc_rel hr hs hc
    exact ⟨_, _, _, hrun o rfl, .inl ⟨v', rfl, hv _ (Ren.put_same _ _ _)⟩, r1, r2⟩

theorem clear_sim {ρ : Ren} {H H' : Heap} {w : World} (hr : Rel P ρ H w) {t ty : TypeId} {s s' v : Value} (h : clearA P H t s = some (v, H')) (hs : VRel ρ s s') :
    v = .tuple #[] ∧ ∃ w', (Builtin.clear_ #[t] ty #[s']).run P w = .ok (.tuple #[]) w' ∧ Rel P ρ H' w' ∧ Ext ρ H w ρ H' w' := by
  unfold clearA at h
  split at h
  · rename_i e n cap he
    cases h
    obtain ⟨rfl, rfl, rfl⟩ := hs.inv_nilslice
    refine ⟨rfl, w, ?_, hr, Ext.refl _ _ _⟩
    obtain ⟨d, hu⟩ : ∃ d, P.underlying t = some d := by
      unfold elemA at he; split at he
      · exact ⟨_, ‹_›⟩
      · cases he
    simp [Builtin.clear_, run_underlying hu]
  · rename_i e a cap he
    cases h
    obtain ⟨d, hu⟩ : ∃ d, P.underlying t = some d := by
      unfold elemA at he; split at he
      · exact ⟨_, ‹_›⟩
      · cases he
    refine ⟨rfl, w, ?_, hr, Ext.refl _ _ _⟩
    rcases hs.inv_slice with ⟨l, cap', hl, hsp, hn, hcc', hlim, es⟩ | ⟨l, a', hl, _, rfl, es⟩ | ⟨l, hl, hsp, hn, es⟩ <;> subst es <;> simp [Builtin.clear_, run_underlying hu]
  · rename_i e a n cap he
    split at h
    rotate_left
    · cases h
    rename_i z B hz hB
    split at h
    rotate_left
    · cases h
    rename_i hc
    obtain ⟨hro, hf, h0, hle⟩ := hc
    simp only [Option.some.injEq, Prod.mk.injEq] at h
    obtain ⟨rfl, rfl⟩ := h
    have hu : P.underlying t = some (.slice e) := by
      unfold elemA at he; split at he
      · rename_i e' hu; cases he; exact hu
      · cases he
    obtain ⟨i, hi, hzi⟩ : ∃ i, P.info? e = some i ∧ i.zero = some z := by
      unfold zeroA at hz
      exact Option.bind_eq_some_iff.1 hz
    obtain ⟨l, cap', hl, es⟩ : ∃ l cap', ρ a.block = some l ∧ s' = .slice (some ⟨l.blk, l.off + a.off, none⟩) (n + 1) cap' := by
      rcases hs.inv_slice with ⟨l, cap', hl, hsp, hn, hcc', hlim, es⟩ | ⟨l, a', hl, hn0, rfl, es⟩ | ⟨l, hl, hsp, hn, es⟩
      · exact ⟨l, _, hl, es⟩
      · cases hn0
      · exact ⟨l, _, hl, es⟩
    subst es
    obtain ⟨h1, h2, ccs, e', fr', hw', h3, h4, h5⟩ := hr.row a.block B l hB hl
    have hfr := h4 hro
    subst hfr
    have hzr := zeros_rel (ρ := ρ) hf h0 ((n + 1) * z.cells.size)
    have hlen : (zerosA z ((n + 1) * z.cells.size)).length = (n + 1) * z.cells.size := by simp [zerosA]
    have hst := run_storeCells_at P l.blk (l.off + a.off) e' (zerosA z ((n + 1) * z.cells.size)) 0 ccs w hw' (by rw [hlen]; omega) (by
      intro u hu
      obtain ⟨i, hi⟩ := List.getElem?_of_mem hu
      obtain ⟨x, _, hx⟩ := hzr.get' i u hi
      exact hx.oneCell)
    simp only [Nat.add_zero] at hst
    obtain ⟨k1, k2⟩ := write_rel hr hB hro hl hw' hzr (off := a.off) (by rw [hlen]; exact hle)
    refine ⟨rfl, _, ?_, k1, k2⟩
    have hzc : (Builtin.zeroCells z.cells (n + 1)).toList = zerosA z ((n + 1) * z.cells.size) := by
      unfold Builtin.zeroCells
      rw [zeros_eq]
    have hzv : (zeroValue e).run P w = .ok z w := by simp [zeroValue, typeInfo, hi, hzi]
    simp [Builtin.clear_, run_underlying hu, hzv, hzc, hst]
  · cases h

theorem goes_loud {ρ : Ren} {H H' : Heap} {w : World} (hr : Rel P ρ H w) {ev ev' : Operand → Value} {o : Oper} {v : Value} (hl : loud o.op = true) (h : stepOp P ev o.op H = some (v, H')) (he : ∀ x ∈ o.op.operands, VRel ρ (ev x) (ev' x)) : Goes P ρ H w ev' o v H' := by
  unfold stepOp at h
  split at h <;> (try (rename_i heq; simp [heq, loud] at hl; done)) 
  · rename_i t a x heq
    split at h
    · rename_i ad hx
      obtain ⟨H2, h1, h2⟩ := map_some h; cases h2
      have e1 := he a (by simp [heq, Op.operands])
      rw [hx] at e1
      obtain ⟨l, hl, e⟩ := e1.inv_ptr
      obtain ⟨w', hrun, r1, r2⟩ := store_rel hr h1 hl (he x (by simp [heq, Op.operands]))
      exact ⟨.skip, w', ρ, by simp [execOp, heq, e, hrun], .inr ⟨rfl, rfl⟩, r1, r2⟩
    · simp at h
  · rename_i b args ts heq
    split at h
    · rename_i s x t u e1 e2
      split at h
      · rename_i htu
        subst htu
        have ets : ts = #[t, t] := by rw [← Array.toList_inj]; exact e2
        obtain ⟨a1, a2, hargs, es, ex⟩ : ∃ a1 a2, args = #[a1, a2] ∧ ev a1 = s ∧ ev a2 = x := by
          cases ha : args.toList with
          | nil => simp [ha] at e1
          | cons a1 r =>
            cases r with
            | nil => simp [ha] at e1
            | cons a2 r =>
              cases r with
              | cons _ _ => simp [ha] at e1
              | nil =>
                simp [ha] at e1
                exact ⟨a1, a2, by rw [← Array.toList_inj]; exact ha, e1.1, e1.2⟩
        subst hargs ets es ex
        obtain ⟨v', ρ', w', hrun, hv, r1, r2⟩ := append_sim (ty := o.type) hr h (he a1 (by simp [heq, Op.operands, Call.operands])) (he a2 (by simp [heq, Op.operands, Call.operands]))
        refine ⟨.value v', w', ρ', ?_, .inl ⟨v', rfl, hv⟩, r1, r2⟩
        simp [execOp, heq, resolve, invoke, builtin, hrun]
      · simp at h
    · rename_i s t e1 e2
      have ets : ts = #[t] := by rw [← Array.toList_inj]; exact e2
      obtain ⟨a1, hargs, es⟩ : ∃ a1, args = #[a1] ∧ ev a1 = s := by
        cases ha : args.toList with
        | nil => simp [ha] at e1
        | cons a1 r =>
          cases r with
          | nil => simp [ha] at e1; exact ⟨a1, by rw [← Array.toList_inj]; exact ha, e1⟩
          | cons a2 r => simp [ha] at e1
      subst hargs es ets
      obtain ⟨rfl, w', hrun, r1, r2⟩ := clear_sim (ty := o.type) hr h (he a1 (by simp [heq, Op.operands, Call.operands]))
      refine ⟨.value (.tuple #[]), w', ρ, ?_, .inl ⟨_, rfl, .tuple .nil⟩, r1, r2⟩
      simp [execOp, heq, resolve, invoke, builtin, hrun]
    all_goals (first | (simp [heq, loud] at hl; done) | simp at h)
  · simp at h
end
end Go.Ab
namespace Go.Ab

def Closed (ops : Array Oper) (D : Nat → Prop) : Prop :=
  ∀ j o, D j → ops[j]? = some o → ∀ e ∈ o.after, Region.binds .any e = true → D e.on
def befP (A : List (List Nat)) (i j : Nat) : Prop := i ∈ (A[j]?).getD []

structure AncOk (ops : Array Oper) (acc : List (List Nat)) (k : Nat) : Prop where
  len : acc.length = k
  lt : ∀ j i, befP acc i j → i < j
  cl : ∀ D, Closed ops D → ∀ j i, befP acc i j → D j → D i

theorem ancs_ok {ops : Array Oper} (hd : ∀ j o, ops[j]? = some o → ∀ e ∈ o.after, Region.binds .any e = true → e.on < j) :
    ∀ (os : List Oper) (acc : List (List Nat)) (k : Nat), k ≤ ops.size → AncOk ops acc k → ops.toList.drop k = os → AncOk ops (ancsFrom os acc) ops.size
  | [], acc, k, hkn, h, hos => by
    have hk : ops.size ≤ k := by
      have := congrArg List.length hos
      simp at this; omega
    simp only [ancsFrom]
    have : k = ops.size := by omega
    subst this; exact h
  | o :: rest, acc, k, hkn, h, hos => by
    simp only [ancsFrom]
    have hk : k < ops.size := by
      have := congrArg List.length hos
      simp at this; omega
    have ho : ops[k]? = some o := by
      have : (ops.toList.drop k)[0]? = some o := by rw [hos]; rfl
      simpa using this
    refine ancs_ok hd rest _ (k + 1) hk ?_ ?_
    · have key : ∀ j i, befP (acc ++ [(o.after.toList.filter (Region.binds .any)).flatMap fun e => e.on :: (acc[e.on]?).getD []]) i j →
          (j < k ∧ befP acc i j) ∨ (j = k ∧ ∃ e ∈ o.after, Region.binds .any e = true ∧ (i = e.on ∨ befP acc i e.on)) := by
        intro j i hb
        unfold befP at hb
        rw [List.getElem?_append, h.len] at hb
        split at hb
        · exact .inl ⟨‹_›, hb⟩
        · rename_i hj
          by_cases hjk : j = k
          · subst hjk
            simp at hb
            obtain ⟨e, ⟨he, hbd⟩, hi⟩ := hb
            exact .inr ⟨rfl, e, he, hbd, hi⟩
          · have : j - k ≠ 0 := by omega
            obtain ⟨m, hm⟩ := Nat.exists_eq_succ_of_ne_zero this
            rw [hm] at hb
            simp at hb
      refine ⟨by simp [h.len], fun j i hb => ?_, fun D hD j i hb hj => ?_⟩
      · rcases key j i hb with ⟨_, h1⟩ | ⟨rfl, e, he, hbd, h1 | h1⟩
        · exact h.lt j i h1
        · rw [h1]; exact hd _ o ho e he hbd
        · exact Nat.lt_trans (h.lt _ _ h1) (hd _ o ho e he hbd)
      · rcases key j i hb with ⟨_, h1⟩ | ⟨rfl, e, he, hbd, h1 | h1⟩
        · exact h.cl D hD j i h1 hj
        · rw [h1]; exact hD _ o hj ho e he hbd
        · exact h.cl D hD _ i h1 (hD _ o hj ho e he hbd)
    · have : ops.toList.drop (k + 1) = (ops.toList.drop k).drop 1 := by rw [List.drop_drop]
      rw [this, hos]; rfl

structure DrawFacts (ops : Array Oper) : Prop where
  edge : ∀ j o, ops[j]? = some o → ∀ e ∈ o.after, Region.binds .any e = true → e.on < j
  lt : ∀ i j, befP (ancs ops) i j → i < j
  cl : ∀ D, Closed ops D → ∀ j i, befP (ancs ops) i j → D j → D i
  rel : ∀ i j oi oj, ops[i]? = some oi → ops[j]? = some oj → i ≠ j → befP (ancs ops) i j ∨ befP (ancs ops) j i ∨
    ((loud oi.op && loud oj.op) = false ∧ ∀ d, oi.dst = some d → d ∉ namesOf ops oj)

theorem draw_facts {ops : Array Oper} (h : drawOk ops = true) : DrawFacts ops := by
  unfold drawOk at h
  simp only [List.all_eq_true, List.mem_range] at h
  have hj : ∀ j oj, ops[j]? = some oj → _ := fun j oj ho => by
    have hlt : j < ops.size := (Array.getElem?_eq_some_iff.1 ho).1
    have := h j hlt
    rw [ho] at this
    exact this
  have edge : ∀ j o, ops[j]? = some o → ∀ e ∈ o.after, Region.binds .any e = true → e.on < j := by
    intro j o ho e he hb
    have := hj j o ho
    simp only [Bool.and_eq_true, Array.all_eq_true] at this
    obtain ⟨i, hi, rfl⟩ := Array.mem_iff_getElem.1 he
    have := this.1.1 i hi
    simpa [hb] using this
  have hA := ancs_ok edge ops.toList [] 0 (Nat.zero_le _) ⟨rfl, fun j i hb => by simp [befP] at hb, fun D hD j i hb _ => by simp [befP] at hb⟩ (by simp)
  refine ⟨edge, fun i j => hA.lt j i, hA.cl, ?_⟩
  intro i j oi oj hoi hoj hne
  have := hj j oj hoj
  simp only [Bool.and_eq_true, List.all_eq_true, List.mem_range] at this
  have h2 := this.2 i (Array.getElem?_eq_some_iff.1 hoi).1
  rw [hoi] at h2
  simp only [Bool.or_eq_true, beq_iff_eq, Bool.and_eq_true, Bool.not_eq_true'] at h2
  rcases h2 with ((h2 | h2) | h2) | h2
  · exact absurd h2 hne
  · exact .inl (by simpa [befP] using h2)
  · exact .inr (.inl (by simpa [befP] using h2))
  · refine .inr (.inr ⟨h2.1, fun d hd => ?_⟩)
    have := h2.2
    rw [hd] at this
    simpa using this
end Go.Ab
namespace Go.Ab

theorem putT_size (T : Array Value) (d : Option Tmp) (v : Value) : (putT T d v).size = T.size := by
  cases d <;> simp [putT]
theorem putT_ne {T : Array Value} {d : Option Tmp} {v : Value} {t : Tmp} (h : d ≠ some t) : (putT T d v)[t]? = T[t]? := by
  cases d with
  | none => rfl
  | some d => simp only [putT]; exact Array.getElem?_setIfInBounds_ne (fun e => h (by rw [e]))
theorem putT_eq {T T' : Array Value} (hs : T.size = T'.size) (t : Tmp) (v : Value) : (putT T (some t) v)[t]? = (putT T' (some t) v)[t]? := by
  simp only [putT, Array.getElem?_setIfInBounds]
  simp [hs]

section
variable {n : Nat} {dst : Nat → Option Tmp} {v : Nat → Value} {T0 : Array Value}

def slots (dst : Nat → Option Tmp) (v : Nat → Value) (T0 : Array Value) (D : Nat → Bool) : Nat → Array Value
  | 0 => T0
  | k + 1 => if D k then putT (slots dst v T0 D k) (dst k) (v k) else slots dst v T0 D k

theorem slots_size (D : Nat → Bool) (k : Nat) : (slots dst v T0 D k).size = T0.size := by
  induction k with
  | zero => rfl
  | succ k ih => simp only [slots]; split <;> simp [putT_size, ih]

theorem slots_same {D E : Nat → Bool} {t : Tmp} {k : Nat} (h : ∀ i, i < k → dst i = some t → D i = E i) : (slots dst v T0 D k)[t]? = (slots dst v T0 E k)[t]? := by
  induction k with
  | zero => rfl
  | succ k ih =>
    have ih := ih fun i hi => h i (by omega)
    simp only [slots]
    by_cases hd : dst k = some t
    · rw [h k (by omega) hd]
      split
      · rw [hd]; exact putT_eq (by simp [slots_size]) _ _
      · exact ih
    · have e1 : ∀ F : Nat → Bool, (if F k then putT (slots dst v T0 F k) (dst k) (v k) else slots dst v T0 F k)[t]? = (slots dst v T0 F k)[t]? := by
        intro F; split
        · exact putT_ne hd
        · rfl
      rw [e1 D, e1 E, ih]

theorem slots_at {D : Nat → Bool} {t : Tmp} {j : Nat} (hj : j ≤ n) (h : ∀ i, i < n → dst i = some t → (D i = true ↔ i < j)) : (slots dst v T0 D n)[t]? = (slots dst v T0 (fun _ => true) j)[t]? := by
  have h1 : ∀ m, j + m ≤ n → (slots dst v T0 D (j + m))[t]? = (slots dst v T0 (fun _ => true) j)[t]? := by
    intro m
    induction m with
    | zero =>
      intro _
      exact slots_same fun i hi hd => (h i (by omega) hd).2 hi
    | succ m ih =>
      intro hm
      rw [← Nat.add_assoc]
      simp only [slots]
      split
      · rename_i hD
        rw [putT_ne, ih (by omega)]
        intro hd
        have := (h (j + m) (by omega) hd).1 hD
        omega
      · exact ih (by omega)
  have := h1 (n - j) (by omega)
  rwa [show j + (n - j) = n by omega] at this

theorem slots_add {D : Nat → Bool} {j : Nat} (hj : j < n) (hD : D j = false) (h : ∀ i t, i < n → dst i = some t → dst j = some t → D i = true → i < j) :
    slots dst v T0 (fun i => D i || i == j) n = putT (slots dst v T0 D n) (dst j) (v j) := by
  apply Array.ext_getElem?
  intro t
  by_cases hd : dst j = some t
  · have e1 : (slots dst v T0 (fun i => D i || i == j) n)[t]? = (slots dst v T0 (fun i => D i || i == j) (j + 1))[t]? := by
      have key : ∀ m, j + 1 + m ≤ n → (slots dst v T0 (fun i => D i || i == j) (j + 1 + m))[t]? = (slots dst v T0 (fun i => D i || i == j) (j + 1))[t]? := by
        intro m
        induction m with
        | zero => intro _; rfl
        | succ m ih =>
          intro hm
          rw [← Nat.add_assoc]
          simp only [slots]
          split
          · rename_i hx
            have hx' : D (j + 1 + m) = true := by
              have : (j + 1 + m == j) = false := by simp; omega
              simpa [this] using hx
            rw [putT_ne, ih (by omega)]
            · rfl
            · intro hdd
              have := h _ t (by omega) hdd hd hx'
              omega
          · exact ih (by omega)
      have := key (n - (j + 1)) (by omega)
      rwa [show j + 1 + (n - (j + 1)) = n by omega] at this
    rw [e1]
    simp only [slots, beq_self_eq_true, Bool.or_true, if_true]
    rw [hd]
    exact putT_eq (by simp [slots_size]) _ _
  · rw [putT_ne hd]
    exact slots_same fun i hi hdi => by
      have : (i == j) = false := by
        simp; intro e; subst e; exact hd hdi
      simp [this]
end
end Go.Ab
namespace Go.Ab
section
variable {P : Program}

def CallSim (P : Program) (call : CallF) : Prop :=
  ∀ f args H v H', call f args H = some (v, H') → ∀ (ρ : Ren) (w : World) (args' : Array Value), Rel P ρ H w → All2 (VRel ρ) args.toList args'.toList →
    (∀ w', (callFunc f args').run P w' = .ok (.enter f args') w') ∧
    Calls P f args' w fun e w' => ∃ v' ρ', e = .returned v' ∧ VRel ρ' v v' ∧ Rel P ρ' H' w' ∧ Ext ρ H w ρ' H' w'

theorem Base.toVRel {ρ : Ren} {x y : List Value} (h : All2 (Base ρ) x y) : All2 (VRel ρ) x y := h.mono fun _ _ => VRel.of_base

theorem opA_cases {call : CallF} {T : Array Value} {o : Oper} {H H' : Heap} {v : Value} (h : opA P call T o H = some (v, H')) :
    (∀ x ∈ o.op.operands, okOpd P x = true) ∧ ((∃ f args ts g first captured, o.op = .call { callee := .value f, args := args, argTypes := ts } ∧ evT T f = .func (.func g) first captured ∧ call g ((first ++ args.map (evT T)) ++ captured) H = some (v, H')) ∨
      stepOp P (evT T) o.op H = some (v, H')) := by
  unfold opA at h
  split at h
  rotate_left
  · simp at h
  rename_i hok
  refine ⟨fun x hx => List.all_eq_true.1 hok x (Array.mem_toList_iff.2 hx), ?_⟩
  split at h
  · rename_i f args ts heq
    split at h
    · rename_i g first captured hf
      exact .inl ⟨f, args, _, g, first, captured, heq, hf, h⟩
    · simp at h
  · exact .inr h

def FW (r : Option Nat) : Fence := { Fence.wide with round := r }
theorem callsIn_FW {r : Option Nat} {n : Nat} {f : FuncId} {args : Array Value} {w : World} {R : Ending → World → Prop} (h : Calls P f args w R) : CallsIn (FW r) n P f args w R :=
  callsIn_wide.2 h
theorem not_defer {call : CallF} {T : Array Value} {o : Oper} {H H' : Heap} {v : Value} (h : opA P call T o H = some (v, H')) : ∀ c, o.op ≠ .defer c := by
  intro c hc
  rcases (opA_cases h).2 with ⟨_, _, _, _, _, _, heq, _⟩ | hs
  · rw [hc] at heq; cases heq
  · rw [hc] at hs; simp [stepOp] at hs

theorem opA_wp {call : CallF} (hcs : CallSim P call) {T : Array Value} {o : Oper} {H H' : Heap} {v : Value} (h : opA P call T o H = some (v, H')) {ρ : Ren} {w : World} (hr : Rel P ρ H w) {a : Act}
    (he : ∀ x ∈ o.op.operands, VRel ρ (evT T x) (a.eval x)) {K : Act → World → Prop} {Q : Exit → Act → World → Prop}
    (hK : ∀ v' w' ρ', VRel ρ' v v' → Rel P ρ' H' w' → Ext ρ H w ρ' H' w' → K (a.put o.dst v') w') {r : Option Nat} {n : Nat} : o.wpIn (FW r) n P a w K Q := by
  refine ⟨fun _ _ => trivial, ?_⟩
  rw [Oper.semAt_eq _ _ _ (not_defer h)]
  rcases (opA_cases h).2 with ⟨f, args, ts, g, first, captured, heq, hf, hc⟩ | hs
  · have e1 := he f (by simp [heq, Op.operands, Call.operands])
    rw [hf] at e1
    obtain ⟨first', captured', e2, h1, h2⟩ := e1.inv_func
    have hargs : All2 (VRel ρ) ((first ++ args.map (evT T)) ++ captured).toList ((first' ++ args.map a.eval) ++ captured').toList := by
      simp only [Array.toList_append, Array.toList_map]
      refine ((Base.toVRel h1).append ?_).append (Base.toVRel h2)
      exact All2.mapBoth fun x hx => he x (by simp [heq, Op.operands, Call.operands]; exact .inr (Array.mem_toList_iff.1 hx))
    obtain ⟨c1, c2⟩ := hcs g _ H v H' hc ρ w _ hr hargs
    have hrun : (execOp a.eval o).run P w = .ok (.enter g ((first' ++ args.map a.eval) ++ captured')) w := by
      simp only [execOp, heq, resolve, e2, Deferred.ofValue, Sem.run_bind, Sem.run_pure, Result.andThen_ok, invoke, c1]
    rw [hrun, Oper.uponIn_enter]
    refine ⟨fun h => by simp [FW, Fence.wide] at h, (callsIn_FW c2).mono fun e w' hh => ?_⟩
    obtain ⟨v', ρ', rfl, hv, hr', hx⟩ := hh
    exact hK v' w' ρ' hv hr' hx
  · have hg : Goes P ρ H w a.eval o v H' := by
      cases hl : loud o.op with
      | true => exact goes_loud hr hl hs he
      | false => exact goes_kind hr (kind_of hl hs) he
    obtain ⟨nx, w', ρ', hrun, hnx, hr', hx⟩ := hg
    rw [hrun]
    rcases hnx with ⟨v', rfl, hv⟩ | ⟨rfl, rfl⟩
    · rw [Oper.uponIn_value]; exact hK v' w' ρ' hv hr' hx
    · rw [Oper.uponIn_skip]; exact hK _ w' ρ' (VRel.undef _) hr' hx

theorem yielded_rel {ρ : Ren} {ops : Array Oper} {T T' : Array Value} (h : TRel ρ T T') (j : Nat) : yielded ops T j = yielded ops T' j := by
  unfold yielded
  cases hd : (ops[j]?).bind (·.dst) with
  | none => rfl
  | some d =>
    simp only [Option.bind_some]
    have hl : T.size = T'.size := by simpa using All2.length h
    by_cases hlt : d < T.size
    · have h1 : T.toList[d]? = some T[d] := by simp [hlt]
      obtain ⟨u, hu, hr⟩ := All2.get h d _ h1
      have hu' : T'[d]? = some u := by simpa using hu
      have hT : T[d]? = some T[d] := by simp [hlt]
      rw [hT, hu']
      generalize T[d] = x at *
      cases hr with
      | one hr => cases hr with
        | cell hr => cases hr with
          | base hr => cases hr <;> rfl
          | func _ _ => rfl
          | yield _ => rfl
        | agg _ => rfl
      | tuple _ => rfl
    · have e1 : T[d]? = none := Array.getElem?_eq_none (Nat.le_of_not_lt hlt)
      have e2 : T'[d]? = none := Array.getElem?_eq_none (hl ▸ Nat.le_of_not_lt hlt)
      rw [e1, e2]

def After (P : Program) (ρ : Ren) (H : Heap) (w : World) (T' : Array Value) (H' : Heap) (df : List Deferred) (a' : Act) (w' : World) : Prop :=
  a'.defers = df ∧ ∃ ρ', TRel ρ' T' a'.tmps ∧ Rel P ρ' H' w' ∧ Ext ρ H w ρ' H' w'

theorem act_put_defers (a : Act) (d : Option Tmp) (v : Value) : (a.put d v).defers = a.defers := by cases d <;> rfl

def YSim (P : Program) (K : Ren → World → Prop) (yl : Yl) : Prop :=
  ∀ b args H v H', yl b args H = some (v, H') → ∀ (ρ : Ren) (w : World) (args' : Array Value) (l : Loc), Rel P ρ H w → K ρ w → ρ b = some l → All2 (VRel ρ) args.toList args'.toList →
    ∃ fn tmps asg bd, (Instr.yield l.blk args').run P w = .ok (.round l.blk fn tmps asg bd) w ∧
      ∀ n, RoundIn (FW none) n P l.blk fn tmps asg bd w fun e w' => ∃ v' ρ', e = .returned v' ∧ VRel ρ' v v' ∧ Rel P ρ' H' w' ∧ Ext ρ H w ρ' H' w'
def YOk (P : Program) (K : Ren → World → Prop) : Mode → Option Nat → Prop
  | .fn, r => r = none
  | .round, _ => True
  | .iter yl, r => r = none ∧ YSim P K yl
def Stays (P : Program) (K : Ren → World → Prop) : Prop := ∀ ρ H w ρ' H' w', Rel P ρ H w → Ext ρ H w ρ' H' w' → K ρ w → K ρ' w'

theorem yieldOf_cases {T : Array Value} {o : Oper} {b : Nat} {as : Array Value} (h : yieldOf P T o = some (b, as)) :
    ∃ f args ts, o.op = .call { callee := .value f, args := args, argTypes := ts } ∧ evT T f = .func (.yield b) #[] #[] ∧ as = args.map (evT T) ∧ ∀ x ∈ o.op.operands, okOpd P x = true := by
  unfold yieldOf at h
  split at h
  rotate_left
  · simp at h
  rename_i f args ts heq
  split at h
  rotate_left
  · simp at h
  rename_i b' hf
  split at h
  rotate_left
  · simp at h
  rename_i hok
  simp at h
  obtain ⟨rfl, rfl⟩ := h
  exact ⟨f, args, _, heq, hf, rfl, fun x hx => List.all_eq_true.1 hok x (Array.mem_toList_iff.2 hx)⟩

theorem opY_wp {call : CallF} (hcs : CallSim P call) {K0 : Ren → World → Prop} {m : Mode} {r : Option Nat} (hy : YOk P K0 m r) {T : Array Value} {o : Oper} {H H' : Heap} {v : Value} (h : opY P call m T o H = some (v, H')) {ρ : Ren} {w : World} (hr : Rel P ρ H w) (hk : K0 ρ w) {a : Act}
    (he : ∀ x ∈ o.op.operands, okOpd P x = true → VRel ρ (evT T x) (a.eval x)) {K : Act → World → Prop} {Q : Exit → Act → World → Prop}
    (hK : ∀ v' w' ρ', VRel ρ' v v' → Rel P ρ' H' w' → Ext ρ H w ρ' H' w' → K (a.put o.dst v') w') {n : Nat} : o.wpIn (FW r) n P a w K Q := by
  unfold opY at h
  split at h
  · rename_i yl b as hyo
    obtain ⟨f, args, ts, heq, hf, rfl, hok⟩ := yieldOf_cases hyo
    obtain ⟨rfl, hys⟩ := hy
    have e1 := he f (by simp [heq, Op.operands, Call.operands]) (hok f (by simp [heq, Op.operands, Call.operands]))
    rw [hf] at e1
    obtain ⟨l, hl, e2⟩ := e1.inv_yield
    obtain ⟨fn, tmps, asg, bd, h1, h2⟩ := hys b _ H v H' h ρ w (args.map a.eval) l hr hk hl (by
      simp only [Array.toList_map]
      exact All2.mapBoth fun x hx => he x (by simp [heq, Op.operands, Call.operands]; exact .inr (Array.mem_toList_iff.1 hx)) (hok x (by simp [heq, Op.operands, Call.operands]; exact .inr (Array.mem_toList_iff.1 hx))))
    refine ⟨fun _ _ => trivial, ?_⟩
    rw [Oper.semAt_eq _ _ _ (by intro c hc; rw [heq] at hc; cases hc)]
    have hrun : (execOp a.eval o).run P w = .ok (.round l.blk fn tmps asg bd) w := by
      have e3 : ∀ (x : Array Value), invoke (.fn (.yield l.blk) #[]) x = Instr.yield l.blk x := fun x => rfl
      simp [execOp, heq, resolve, e2, Deferred.ofValue, h1, e3, invoke]
    rw [hrun, Oper.uponIn_round]
    refine ⟨fun h => by simp [FW, Fence.wide] at h, (h2 _).mono fun e w' hh => ?_⟩
    obtain ⟨v', ρ', rfl, hv, hr', hx⟩ := hh
    exact hK v' w' ρ' hv hr' hx
  · exact opA_wp hcs h hr (fun x hx => he x hx ((opA_cases h).1 x hx)) hK

theorem wpOp_st {call : CallF} (hcs : CallSim P call) {K0 : Ren → World → Prop} {m : Mode} {r : Option Nat} (hy : YOk P K0 m r) {n : Nat} {ops : Array Oper} {T T' : Array Value} {o : Oper} {j : Nat} (hj : ops[j]? = some o) {H H' : Heap} (h : stY P call m ops o (T, H) = some (T', H')) {ρ : Ren} {w : World} (hr : Rel P ρ H w) (hk : K0 ρ w) {a : Act} (ht : TRel ρ T a.tmps)
    {K : Act → World → Prop} {Q : Exit → Act → World → Prop} (hK : ∀ a' w', After P ρ H w T' H' a.defers a' w' → K a' w') : wpOpIn (FW r) n P ops Q j K a w := by
  unfold wpOpIn
  rw [hj]
  simp only
  unfold stY at h
  have hw : Region.wanted o (yielded ops a.tmps) = wantedA ops T o := by
    unfold wantedA
    rw [funext (yielded_rel ht)]
  rw [hw]
  split at h
  · rename_i hwt
    simp only [hwt, if_true]
    obtain ⟨⟨v, H2⟩, h1, h2⟩ := map_some h
    simp at h2
    obtain ⟨rfl, rfl⟩ := h2
    refine opY_wp hcs hy h1 hr hk (fun x _ hx => TRel.ev ht hr.glob a.defers hx) fun v' w' ρ' hv hr' hx => hK _ _ ⟨act_put_defers _ _ _, ρ', ?_, hr', hx⟩
    exact (ht.mono hx.le).put o.dst hv a.defers
  · rename_i hwt
    simp only [hwt]
    simp at h
    obtain ⟨rfl, rfl⟩ := h
    exact ⟨fun _ _ => trivial, hK _ _ ⟨act_put_defers _ _ _, ρ, ht.put o.dst (VRel.undef _) a.defers, hr, Ext.refl _ _ _⟩⟩

theorem region_wp {call : CallF} (hcs : CallSim P call) {K0 : Ren → World → Prop} (hst : Stays P K0) {md : Mode} {r : Option Nat} (hy : YOk P K0 md r) {n : Nat} {ops : Array Oper} {Q : Exit → Act → World → Prop} : ∀ (m k : Nat), k + m = ops.size → ∀ {T T' : Array Value} {H H' : Heap}, regA P call md ops (ops.toList.drop k) T H = some (T', H') → ∀ {ρ : Ren} {w : World} {a : Act}, Rel P ρ H w → K0 ρ w → TRel ρ T a.tmps →
    (∀ a' w', After P ρ H w T' H' a.defers a' w' → Q .normal a' w') → wpOpsIn (FW r) n P ops Q (List.range' k m) a w
  | 0, k, hk, T, T', H, H', h, ρ, w, a, hr, hk0, ht, hQ => by
    have : ops.toList.drop k = [] := List.drop_eq_nil_of_le (by simp; omega)
    rw [this] at h
    simp [regA] at h
    obtain ⟨rfl, rfl⟩ := h
    exact hQ a w ⟨rfl, ρ, ht, hr, Ext.refl _ _ _⟩
  | m + 1, k, hk, T, T', H, H', h, ρ, w, a, hr, hk0, ht, hQ => by
    have hlt : k < ops.size := by omega
    have hd : ops.toList.drop k = ops[k] :: ops.toList.drop (k + 1) := by
      rw [List.drop_eq_getElem_cons (by simpa using hlt)]; simp
    rw [hd] at h
    simp only [regA] at h
    cases hs : stY P call md ops ops[k] (T, H) with
    | none => simp [hs] at h
    | some s =>
      obtain ⟨T1, H1⟩ := s
      simp only [hs] at h
      rw [List.range'_succ, wpOpsIn_cons]
      refine wpOp_st hcs hy (by simp [hlt]) hs hr hk0 ht fun a' w' ha => ?_
      obtain ⟨hdf, ρ', ht', hr', hx⟩ := ha
      refine region_wp hcs hst hy m (k + 1) (by omega) h hr' (hst _ _ _ _ _ _ hr hx hk0) ht' fun a2 w2 ha2 => ?_
      obtain ⟨hdf2, ρ2, ht2, hr2, hx2⟩ := ha2
      exact hQ a2 w2 ⟨hdf2.trans hdf, ρ2, ht2, hr2, hx.trans hx2⟩
end
end Go.Ab
namespace Go.Ab

def look (H : Heap) (b : Nat) : Option Blk := (H[b]?).join
theorem look_some {H : Heap} {b : Nat} {B : Blk} : look H b = some B ↔ H[b]? = some (some B) := by
  unfold look
  cases h : H[b]? with
  | none => simp
  | some x => simp

section
variable (H : Nat → Heap)
def cr (b : Nat) : Nat → Nat
  | 0 => 0
  | k + 1 => if b < (H k).size then cr b k else k + 1
theorem cr_spec (hm : ∀ i j, i ≤ j → (H i).size ≤ (H j).size) (b : Nat) : ∀ n, b < (H n).size → b < (H (cr H b n)).size ∧ cr H b n ≤ n ∧ ∀ k, k < cr H b n → (H k).size ≤ b
  | 0, h => ⟨h, Nat.le_refl _, fun k hk => absurd hk (Nat.not_lt_zero _)⟩
  | n + 1, h => by
    simp only [cr]
    split
    · rename_i hb
      obtain ⟨h1, h2, h3⟩ := cr_spec hm b n hb
      exact ⟨h1, by omega, h3⟩
    · rename_i hb
      exact ⟨h, Nat.le_refl _, fun k hk => Nat.le_trans (hm k n (by omega)) (Nat.le_of_not_lt hb)⟩

def HD (n nx : Nat) : Heap := Array.ofFn (n := (H n).size) fun b => look (H (max nx (cr H b n))) b
theorem HD_size (n nx : Nat) : (HD H n nx).size = (H n).size := by simp [HD]
theorem HD_get (n nx b : Nat) (B : Blk) : (HD H n nx)[b]? = some (some B) ↔ b < (H n).size ∧ (H (max nx (cr H b n)))[b]? = some (some B) := by
  unfold HD
  rw [Array.getElem?_ofFn]
  split
  · rename_i h
    simp only [Option.some.injEq, look_some, h, true_and]
  · rename_i h
    simp [h]
end

structure Run (P : Program) (call : CallF) (ops : Array Oper) (S : Nat → Array Value × Heap) : Prop where
  step : ∀ i o, ops[i]? = some o → stA P call ops o (S i) = some (S (i + 1))
  size : ∀ i, i < ops.size → (S i).2.size ≤ (S (i + 1)).2.size
  stay : ∀ i, ops.size ≤ i → S i = S ops.size

def puts (P : Program) (call : CallF) (ops : Array Oper) (S : Nat → Array Value × Heap) (i : Nat) : Value :=
  match ops[i]? with
  | some o => if wantedA ops (S i).1 o then ((opA P call (S i).1 o (S i).2).map (·.1)).getD undef else undef
  | none => undef
def dsts (ops : Array Oper) (i : Nat) : Option Tmp := (ops[i]?).bind (·.dst)
def isLoud (ops : Array Oper) (i : Nat) : Prop := ∃ o, ops[i]? = some o ∧ loud o.op = true

section
variable {P : Program} {call : CallF} {ops : Array Oper} {S : Nat → Array Value × Heap}

theorem Run.mono (r : Run P call ops S) : ∀ i j, i ≤ j → (S i).2.size ≤ (S j).2.size := by
  intro i j h
  induction h with
  | refl => exact Nat.le_refl _
  | step h ih =>
    rename_i m
    by_cases hm : m < ops.size
    · exact Nat.le_trans ih (r.size m hm)
    · have e1 := r.stay m (by omega)
      have e2 := r.stay (m + 1) (by omega)
      rw [e2, ← e1]; exact ih

theorem Run.slots (r : Run P call ops S) : ∀ k, k ≤ ops.size → (S k).1 = slots (dsts ops) (puts P call ops S) (S 0).1 (fun _ => true) k
  | 0, _ => rfl
  | k + 1, hk => by
    have hlt : k < ops.size := by omega
    have ho : ops[k]? = some ops[k] := by simp [hlt]
    have hs := r.step k _ ho
    have ih := r.slots k (by omega)
    simp only [Ab.slots, if_true, ← ih]
    unfold stA at hs
    have hd : dsts ops k = ops[k].dst := by simp [dsts, ho]
    split at hs
    · rename_i hw
      obtain ⟨x, h1, h2⟩ := map_some hs
      rw [← h2, hd]
      have hp : puts P call ops S k = x.1 := by simp only [puts, ho, hw, if_true, h1]; rfl
      rw [hp]
    · rename_i hw
      simp at hs
      rw [← hs, hd]
      have hp : puts P call ops S k = undef := by simp only [puts, ho, hw]; rfl
      rw [hp]

theorem Run.quiet (r : Run P call ops S) {i : Nat} {o : Oper} (ho : ops[i]? = some o) (hl : loud o.op = false) :
    (wantedA ops (S i).1 o = false ∧ (S (i + 1)).2 = (S i).2 ∧ puts P call ops S i = undef) ∨
    (wantedA ops (S i).1 o = true ∧ opA P call (S i).1 o (S i).2 = some (puts P call ops S i, (S (i + 1)).2) ∧ Kind P (evT (S i).1) o.op (S i).2 (puts P call ops S i) (S (i + 1)).2) := by
  have hs := r.step i o ho
  unfold stA at hs
  split at hs
  · rename_i hw
    obtain ⟨x, h1, h2⟩ := map_some hs
    have hp : puts P call ops S i = x.1 := by simp only [puts, ho, hw, if_true, h1]; rfl
    have hx : x = (puts P call ops S i, (S (i + 1)).2) := by rw [← h2, hp]
    refine .inr ⟨hw, by rw [h1, hx], ?_⟩
    rw [hx] at h1
    rcases (opA_cases h1).2 with ⟨f, args, ts, g, first, captured, heq, _⟩ | hs
    · rw [heq] at hl; simp [loud] at hl
    · exact kind_of hl hs
  · rename_i hw
    simp at hs
    refine .inl ⟨by simpa using hw, by rw [← hs], ?_⟩
    simp only [puts, ho, hw]; rfl

theorem Run.quiet_get (r : Run P call ops S) {i : Nat} (hi : ¬ isLoud ops i) {b : Nat} (hb : b < (S i).2.size) : (S (i + 1)).2[b]? = (S i).2[b]? := by
  by_cases hlt : i < ops.size
  · have ho : ops[i]? = some ops[i] := by simp [hlt]
    have hl : loud ops[i].op = false := by
      cases h : loud ops[i].op with
      | false => rfl
      | true => exact absurd ⟨_, ho, h⟩ hi
    rcases r.quiet ho hl with ⟨_, e, _⟩ | ⟨_, _, hk⟩
    · rw [e]
    · generalize (S (i + 1)).2 = H' at *
      cases hk with
      | pure _ _ => rfl
      | load _ _ _ => rfl
      | new _ _ => rw [Array.getElem?_push, if_neg (Nat.ne_of_lt hb)]
  · rw [r.stay i (by omega), r.stay (i + 1) (by omega)]

theorem Run.quiet_span (r : Run P call ops S) {i j : Nat} (h : i ≤ j) (hq : ∀ k, i ≤ k → k < j → ¬ isLoud ops k) {b : Nat} (hb : b < (S i).2.size) : (S j).2[b]? = (S i).2[b]? := by
  induction h with
  | refl => rfl
  | step h ih =>
    rename_i m
    rw [r.quiet_get (hq m h (Nat.lt_succ_self _)) (Nat.lt_of_lt_of_le hb (r.mono i m h))]
    exact ih fun k h1 h2 => hq k h1 (by omega)

structure Stable (P : Program) (call : CallF) (ops : Array Oper) (S : Nat → Array Value × Heap) : Prop where
  load : ∀ j o t x a v c, ops[j]? = some o → wantedA ops (S j).1 o = true → o.op = .load t x → evT (S j).1 x = .pointer (some a) → loadA P (S j).2 t a = some v → isLoud ops c → ¬ befP (ancs ops) c j → ¬ befP (ancs ops) j c → c < ops.size →
    ((S c).2.size ≤ a.block ∨ loadA P (S c).2 t a = some v) ∧ ((S (c + 1)).2.size ≤ a.block ∨ loadA P (S (c + 1)).2 t a = some v)
  new : ∀ j o c, ops[j]? = some o → wantedA ops (S j).1 o = true → loud o.op = false → (∀ t x, o.op ≠ .load t x) → (S j).2.size < (S (j + 1)).2.size → isLoud ops c → j < c → ¬ befP (ancs ops) j c → c < ops.size →
    (S (c + 1)).2[(S j).2.size]? = (S (j + 1)).2[(S j).2.size]?

end
end Go.Ab
