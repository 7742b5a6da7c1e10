/- The road to a card of this seat: T4, T5, T6, T7, T8. Each theorem holds for every input that its own premises speak of. -/
import Derived.Test.YtaaeeiheeihjaaaDoorA5
set_option linter.all false
namespace Go.Ab
section
variable {P : Program} {X : Cx} {E : TEnv} {Th : List Root}

theorem opt_quiet {op : Op} {x : TV} (hc : ∀ c, op ≠ .call c ∨ ∀ f, c.callee ≠ .value f) (ok : op.operands.toList.all (okOpd P) = true) (h : ∀ T G p, Rl X E Th T G p → ∃ v, stepOp P (evT T) op G = some (v, G) ∧ VR G X.D p x v) : OpT P X E Th op x Th .no :=
  ⟨⟨hc, ok⟩, fun T G p hr => let ⟨v, h1, h2⟩ := h T G p hr; ⟨v, G, p, h1, StR.refl _ _, hr.hr, h2⟩⟩
theorem opt_move {x : Operand} {a : TV} (hx : evTV E x = some a) (ok : okOpd P x = true) : OpT P X E Th (.move x) a Th .no :=
  opt_quiet (fun _ => .inl (by simp)) (by simp [Op.operands, ok]) fun T G p hr => ⟨_, by simp [stepOp], hr.ev hx ok⟩
theorem opt_assign {x : Operand} {a : TV} (hx : evTV E x = some a) (ok : okOpd P x = true) : OpT P X E Th (.assign x) a Th .no :=
  opt_quiet (fun _ => .inl (by simp)) (by simp [Op.operands, ok]) fun T G p hr => ⟨_, by simp [stepOp], hr.ev hx ok⟩
theorem opt_pick {c x y : Operand} {t : Bool} {a b : TV} (hc : evTV E c = some (.v (.bool t))) (hx : evTV E x = some a) (hy : evTV E y = some b) (o1 : okOpd P c = true) (o2 : okOpd P x = true) (o3 : okOpd P y = true) : OpT P X E Th (.pick c x y) (if t then a else b) Th .no :=
  opt_quiet (fun _ => .inl (by simp)) (by simp [Op.operands, o1, o2, o3]) fun T G p hr => ⟨if t then evT T x else evT T y, by simp [stepOp, (hr.ev hc o1).flat_eq], by
    cases t
    · exact hr.ev hy o3
    · exact hr.ev hx o2⟩
theorem opt_pick_t {c x y : Operand} {t : Bool} {a b : TV} (hc : evTV E c = some (.v (.bool t))) (hx : evTV E x = some a) (hy : evTV E y = some b) (o1 : okOpd P c = true) (o2 : okOpd P x = true) (o3 : okOpd P y = true) (ht : t = true) : OpT P X E Th (.pick c x y) a Th .no := by
  subst ht; exact opt_pick hc hx hy o1 o2 o3
theorem opt_pick_f {c x y : Operand} {t : Bool} {a b : TV} (hc : evTV E c = some (.v (.bool t))) (hx : evTV E x = some a) (hy : evTV E y = some b) (o1 : okOpd P c = true) (o2 : okOpd P x = true) (o3 : okOpd P y = true) (ht : t = false) : OpT P X E Th (.pick c x y) b Th .no := by
  subst ht; exact opt_pick hc hx hy o1 o2 o3
def tvVals : List TV → Option (List Value)
  | [] => some []
  | .v x :: l => (tvVals l).map (x :: ·)
  | _ => none
def tvVal : TV → Option Value
  | .v x => some x
  | .agg cs => (tvVals cs).map fun l => .agg ⟨l⟩
  | _ => none
theorem vrs_vals {G : Heap} {D : Nat → Prop} {p : Pl} : ∀ {cs : List TV} {ws us : List Value}, VRs G D p cs ws → tvVals cs = some us → ws = us
  | _, _, us, .nil, h => by simp [tvVals] at h; exact h.symm ▸ rfl
  | c :: cs, w :: ws, us, .cons a b, h => by
    cases c with
    | v x =>
      simp only [tvVals] at h
      obtain ⟨l, h1, h2⟩ := map_some h
      subst h2
      rw [a.flat_eq, vrs_vals b h1]
    | _ => simp [tvVals] at h
theorem vr_val {G : Heap} {D : Nat → Prop} {p : Pl} {x : TV} {w u : Value} (h : VR G D p x w) (hu : tvVal x = some u) : w = u := by
  cases x with
  | v x => simp only [tvVal, Option.some.injEq] at hu; subst hu; exact h.flat_eq
  | agg cs =>
    simp only [tvVal] at hu
    obtain ⟨l, h1, h2⟩ := map_some hu
    subst h2
    cases h with
    | agg h => rw [vrs_vals h h1]
  | _ => simp [tvVal] at hu
theorem opt_binG {o : BinOp} {t u : TypeId} {x y : Operand} {a b : TV} {va vb v : Value} (hx : evTV E x = some a) (hy : evTV E y = some b) (ha : tvVal a = some va) (hb : tvVal b = some vb) (o1 : okOpd P x = true) (o2 : okOpd P y = true) (h : binA P o t x y va vb = some v) (hf : flat1 v = true) : OpT P X E Th (.binOp o t x y u) (.v v) Th .no :=
  opt_quiet (fun _ => .inl (by simp)) (by simp [Op.operands, o1, o2]) fun T G p hr => ⟨v, by simp [stepOp, vr_val (hr.ev hx o1) ha, vr_val (hr.ev hy o2) hb, h], .flat hf⟩
theorem opt_ibin {o : BinOp} {t u : TypeId} {x y : Operand} {k : IntKind} {a b : Int} {v : Value} (hx : evTV E x = some (.v (.int k a))) (hy : evTV E y = some (.v (.int k b))) (o1 : okOpd P x = true) (o2 : okOpd P y = true) (h : ibin o k a b = some v) (hf : flat1 v = true) : OpT P X E Th (.binOp o t x y u) (.v v) Th .no :=
  opt_binG hx hy rfl rfl o1 o2 (binA_int h) hf
theorem opt_add {t u : TypeId} {x y : Operand} {a b : Int} (hx : evTV E x = some (.v (.int .i64 a))) (hy : evTV E y = some (.v (.int .i64 b))) (o1 : okOpd P x = true) (o2 : okOpd P y = true) (h : In64 (a + b)) : OpT P X E Th (.binOp .add t x y u) (.v (.int .i64 (a + b))) Th .no :=
  opt_ibin hx hy o1 o2 (by simp [ibin, wrap64 h]) rfl
theorem opt_sub {t u : TypeId} {x y : Operand} {a b : Int} (hx : evTV E x = some (.v (.int .i64 a))) (hy : evTV E y = some (.v (.int .i64 b))) (o1 : okOpd P x = true) (o2 : okOpd P y = true) (h : In64 (a - b)) : OpT P X E Th (.binOp .sub t x y u) (.v (.int .i64 (a - b))) Th .no :=
  opt_ibin hx hy o1 o2 (by simp [ibin, wrap64 h]) rfl
theorem opt_mul {t u : TypeId} {x y : Operand} {a b : Int} (hx : evTV E x = some (.v (.int .i64 a))) (hy : evTV E y = some (.v (.int .i64 b))) (o1 : okOpd P x = true) (o2 : okOpd P y = true) (h : In64 (a * b)) : OpT P X E Th (.binOp .mul t x y u) (.v (.int .i64 (a * b))) Th .no :=
  opt_ibin hx hy o1 o2 (by simp [ibin, wrap64 h]) rfl
theorem opt_cmp {o : BinOp} {t u : TypeId} {x y : Operand} {k : IntKind} {a b : Int} {c : Bool} (hx : evTV E x = some (.v (.int k a))) (hy : evTV E y = some (.v (.int k b))) (o1 : okOpd P x = true) (o2 : okOpd P y = true) (h : ibin o k a b = some (.bool c)) : OpT P X E Th (.binOp o t x y u) (.v (.bool c)) Th .no :=
  opt_ibin hx hy o1 o2 h rfl
theorem opt_un {o : UnOp} {t : TypeId} {x : Operand} {a v : Value} (hx : evTV E x = some (.v a)) (o1 : okOpd P x = true) (h : pureV P (Op.unary o a) = some v) (ha : flat1 a = true) (hf : flat1 v = true) : OpT P X E Th (.unOp o t x) (.v v) Th .no :=
  opt_quiet (fun _ => .inl (by simp)) (by simp [Op.operands, o1]) fun T G p hr => ⟨v, by
    have hfl : flat a = true := by cases a <;> first | exact ha | simp [flat1] at ha
    simp [stepOp, (hr.ev hx o1).flat_eq, h, hfl], .flat hf⟩
theorem opt_not {t : TypeId} {x : Operand} {b : Bool} (hx : evTV E x = some (.v (.bool b))) (o1 : okOpd P x = true) : OpT P X E Th (.unOp .not t x) (.v (.bool (!b))) Th .no := opt_un hx o1 rfl rfl rfl
theorem opt_conv {s d : TypeId} {x : Operand} {a v : Value} (hx : evTV E x = some (.v a)) (o1 : okOpd P x = true) (h : pureV P (convert s d a) = some v) (ha : flat1 a = true) (hf : flat1 v = true) : OpT P X E Th (.convert s d x) (.v v) Th .no :=
  opt_quiet (fun _ => .inl (by simp)) (by simp [Op.operands, o1]) fun T G p hr => ⟨v, by
    have hfl : flat a = true := by cases a <;> first | exact ha | simp [flat1] at ha
    simp [stepOp, (hr.ev hx o1).flat_eq, h, hfl], .flat hf⟩

theorem opt_index_1 {t e : TypeId} {x i : Operand} {m n j : Nat} {k : IntKind} {cs : List TV} {y : TV} [hA : ArI P t m e] [hT : TyI P e false n] (hx : evTV E x = some (.agg cs)) (hi : evTV E i = some (.v (.int k (j : Int)))) (o1 : okOpd P x = true) (o2 : okOpd P i = true) (hj : j < m) (hy : cs[j * n]? = some y) : OpT P X E Th (.index t x i) y Th .no :=
  opt_quiet (fun _ => .inl (by simp)) (by simp [Op.operands, o1, o2]) fun T G p hr => by
    have hv := hr.ev hx o1
    cases hw : evT T x with
    | agg ws =>
      rw [hw] at hv
      obtain ⟨vs⟩ := ws
      cases hv with
      | agg hv =>
        obtain ⟨v, h1, h2⟩ := hv.get hy
        refine ⟨v, ?_, h2⟩
        simp only [stepOp, hw, (hr.ev hi o2).flat_eq, indexA, hA.ar, hT.sz, partA, hT.ag]
        simp [hj, h1]
    | _ => rw [hw] at hv; cases hv
theorem opt_extract {x : Operand} {i : Nat} {cs : List TV} {y : TV} (hx : evTV E x = some (.tup cs)) (o1 : okOpd P x = true) (hy : cs[i]? = some y) : OpT P X E Th (.extract x i) y Th .no :=
  opt_quiet (fun _ => .inl (by simp)) (by simp [Op.operands, o1]) fun T G p hr => by
    have hv := hr.ev hx o1
    cases hw : evT T x with
    | tuple ws =>
      rw [hw] at hv
      obtain ⟨vs⟩ := ws
      cases hv with
      | tup hv =>
        obtain ⟨v, h1, h2⟩ := hv.get hy
        exact ⟨v, by simp [stepOp, hw, h1], h2⟩
    | _ => rw [hw] at hv; cases hv

theorem fp_inv {G : Heap} {D : Nat → Prop} {p : Pl} {t : Bool} {cs : List TV} {off : Nat} {w : Value} (h : VR G D p (.fp t cs off) w) : ∃ b o vs, w = .pointer (some ⟨b, o + off, none⟩) ∧ cellsA G ⟨b, o, none⟩ cs.length = some vs ∧ VRs G D p cs vs ∧ Frz D p t b := by
  cases h with
  | fp a b c => exact ⟨_, _, _, rfl, a, b, c⟩
theorem opt_load_fp_a {t : TypeId} {x : Operand} {tg : Bool} {cs : List TV} {off n : Nat} [hT : TyI P t true n] (hx : evTV E x = some (.fp tg cs off)) (o1 : okOpd P x = true) (hl : Nat.ble (off + n) cs.length = true) : OpT P X E Th (.load t x) (.agg ((cs.drop off).take n)) Th .no :=
  opt_quiet (fun _ => .inl (by simp)) (by simp [Op.operands, o1]) fun T G p hr => by
    obtain ⟨b, o, vs, h1, h2, h3, _⟩ := fp_inv (hr.ev hx o1)
    rw [Nat.ble_eq] at hl
    refine ⟨.agg ⟨(vs.drop off).take n⟩, ?_, .agg ((h3.drop _).take _)⟩
    have := cellsA_sub h2 (i := off) (m := n) hl
    simp only at this
    simp [stepOp, h1, loadA, hT.ag, hT.sz, this]
theorem opt_load_fp_row {t : TypeId} {x : Operand} {tg : Bool} {cs : List TV} {n : Nat} [hT : TyI P t true n] (hx : evTV E x = some (.fp tg cs 0)) (o1 : okOpd P x = true) (hl : cs.length = n) : OpT P X E Th (.load t x) (.agg cs) Th .no := by
  have := opt_load_fp_a (X := X) (Th := Th) (hT := hT) hx o1 (by rw [Nat.ble_eq]; omega)
  rw [List.drop_zero, List.take_of_length_le (by omega)] at this
  exact this
theorem opt_load_fp_1 {t : TypeId} {x : Operand} {tg : Bool} {cs : List TV} {off n : Nat} {y : TV} [hT : TyI P t false n] (hx : evTV E x = some (.fp tg cs off)) (o1 : okOpd P x = true) (hy : cs[off]? = some y) : OpT P X E Th (.load t x) y Th .no :=
  opt_quiet (fun _ => .inl (by simp)) (by simp [Op.operands, o1]) fun T G p hr => by
    obtain ⟨b, o, vs, h1, h2, h3, _⟩ := fp_inv (hr.ev hx o1)
    obtain ⟨v, h4, h5⟩ := h3.get hy
    refine ⟨v, ?_, h5⟩
    have := cellsA_at h2 (i := off) (List.getElem?_eq_some_iff.1 hy).1
    simp only at this
    simp [stepOp, h1, loadA, hT.ag, this, h4]
theorem pt_inv {T : Array Value} {G : Heap} {p : Pl} (hr : Rl X E Th T G p) {i g off : Nat} {e : TypeId} {cs : List TV} {w : Value} (h : VR G X.D p (.pt i g off) w) (hi : Th[i]? = some ⟨g, some (e, cs)⟩) (hc : 0 < cs.length) : ∃ b vs, w = .pointer (some ⟨b, off, none⟩) ∧ p[i]? = some (g, some (some b)) ∧ G[b]? = some (some ⟨vs, e, false⟩) ∧ VRs G X.D p cs vs := by
  obtain ⟨b, vs, h1, h2, h3, _⟩ := hr.hr.get1 hi hc
  cases h with
  | pt _ k _ => exact ⟨b, vs, k b h1, h1, h2, h3⟩
theorem opt_load_pt_a {t : TypeId} {x : Operand} {i g off n : Nat} {e : TypeId} {cs : List TV} [hT : TyI P t true n] (hx : evTV E x = some (.pt i g off)) (hi : Th[i]? = some ⟨g, some (e, cs)⟩) (o1 : okOpd P x = true) (hl : Nat.ble (off + n) cs.length = true) (hn : Nat.blt 0 cs.length = true) : OpT P X E Th (.load t x) (.agg ((cs.drop off).take n)) Th .no :=
  opt_quiet (fun _ => .inl (by simp)) (by simp [Op.operands, o1]) fun T G p hr => by
    rw [Nat.ble_eq] at hl; rw [Nat.blt_eq] at hn
    obtain ⟨b, vs, h1, h2, h3, h4⟩ := pt_inv hr (hr.ev hx o1) hi hn
    refine ⟨_, ?_, .agg ((h4.drop off).take n)⟩
    simp only [stepOp, h1]
    rw [load_agg (sp := none) hT.ag hT.sz h3 (by simp only; rw [← h4.length]; exact hl)]
    rfl
theorem opt_load_pt_row {t : TypeId} {x : Operand} {i g n : Nat} {e : TypeId} {cs : List TV} [hT : TyI P t true n] (hx : evTV E x = some (.pt i g 0)) (hi : Th[i]? = some ⟨g, some (e, cs)⟩) (o1 : okOpd P x = true) (hl : cs.length = n) (hn : Nat.blt 0 cs.length = true) : OpT P X E Th (.load t x) (.agg cs) Th .no := by
  have := opt_load_pt_a (X := X) (hT := hT) hx hi o1 (by rw [Nat.ble_eq]; omega) hn
  rw [List.drop_zero, List.take_of_length_le (by omega)] at this
  exact this
theorem opt_load_pt_1 {t : TypeId} {x : Operand} {i g off n : Nat} {e : TypeId} {cs : List TV} {y : TV} [hT : TyI P t false n] (hx : evTV E x = some (.pt i g off)) (hi : Th[i]? = some ⟨g, some (e, cs)⟩) (o1 : okOpd P x = true) (hy : cs[off]? = some y) : OpT P X E Th (.load t x) y Th .no :=
  opt_quiet (fun _ => .inl (by simp)) (by simp [Op.operands, o1]) fun T G p hr => by
    have hlt := (List.getElem?_eq_some_iff.1 hy).1
    obtain ⟨b, vs, h1, h2, h3, h4⟩ := pt_inv hr (hr.ev hx o1) hi (by omega)
    obtain ⟨v, h5, h6⟩ := h4.get hy
    refine ⟨v, ?_, h6⟩
    simp only [stepOp, h1]
    rw [load_cell (sp := none) hT.ag h3 h5]
    rfl
theorem opt_store {t : TypeId} {x y : Operand} {i g off n : Nat} {e : TypeId} {cs : List TV} {a : TV} {ag : Bool} [hT : TyI P t ag n] (hx : evTV E x = some (.pt i g off)) (hy : evTV E y = some a) (hi : Th[i]? = some ⟨g, some (e, cs)⟩) (o1 : okOpd P x = true) (o2 : okOpd P y = true) (ha : a.noTup) (hn : a.cells.length = n) (hl : Nat.ble (off + n) cs.length = true) (h0 : Nat.blt 0 n = true) :
    OpT P X E Th (.store t x y) (.tup []) (Th.set i ⟨g, some (e, spliceT cs off a.cells)⟩) (.at i off (off + n)) := by
  refine ⟨⟨fun _ => .inl (by simp), by simp [Op.operands, o1, o2]⟩, fun T G p hr => ?_⟩
  rw [Nat.ble_eq] at hl; rw [Nat.blt_eq] at h0
  obtain ⟨b, vs, h1, h2, h3, h4⟩ := pt_inv hr (hr.ev hx o1) hi (by omega)
  have hv := hr.ev hy o2
  have hc := hv.cells ha
  have hsz : (evT T y).cells.size = n := by rw [← hn, hc.length]; simp
  have hle : off + n ≤ vs.length := by rw [← h4.length]; exact hl
  obtain ⟨k1, k2⟩ := hr.hr.put hi h2 (h4.splice hc off)
  refine ⟨undef, G.setIfInBounds b (some ⟨splice vs off (evT T y).cells.toList, e, false⟩), p, ?_, ?_, k1, .tup .nil⟩
  · simp only [stepOp, h1]
    rw [store_blk (a := ⟨b, off, none⟩) hT.sz h3 rfl hsz hle (hv.noTup ha)]
    rfl
  · refine StR.put hr.hr h2 k2 (fun o ho => ?_) ⟨off, ?_⟩
    · have hb := getElem?_lt h3
      simp only [cellAt, set_get hb, h3]
      have hout : o < off ∨ off + n ≤ o := by
        simp only [EffD.fn, effAt, beq_self_eq_true, Bool.true_and, Bool.and_eq_false_iff] at ho
        rcases ho with ho | ho
        · left
          rcases Nat.lt_or_ge o off with q | q
          · exact q
          · rw [Nat.ble_eq_true_of_le q] at ho; cases ho
        · right
          rcases Nat.lt_or_ge o (off + n) with q | q
          · rw [show Nat.blt o (off + n) = true from Nat.ble_eq_true_of_le q] at ho; cases ho
          · exact q
      have hsl : (evT T y).cells.toList.length = n := by simpa using hsz
      unfold splice
      rcases hout with q | q
      · rw [List.append_assoc, List.getElem?_append_left (by simp; omega), List.getElem?_take, if_pos q]
      · rw [List.getElem?_append_right (by simp [hsz]; omega), List.getElem?_drop]
        congr 1
        simp [hsz]; omega
    · simp [EffD.fn, effAt, Nat.ble_eq]; omega
theorem opt_fieldAddr_fp {s ft : TypeId} {x : Operand} {f off o k : Nat} {tg ag : Bool} {cs : List TV} [hF : FdI P s f o ft] [hT : TyI P ft ag (k + 1)] (hx : evTV E x = some (.fp tg cs off)) (o1 : okOpd P x = true) : OpT P X E Th (.fieldAddr s x f) (.fp tg cs (off + o)) Th .no :=
  opt_quiet (fun _ => .inl (by simp)) (by simp [Op.operands, o1]) fun T G p hr => by
    obtain ⟨b, o', vs, h1, h2, h3, h4⟩ := fp_inv (hr.ev hx o1)
    refine ⟨.pointer (some ⟨b, o' + (off + o), none⟩), ?_, .fp h2 h3 h4⟩
    simp only [stepOp, h1, hF.fd, hT.sz]
    simp [Nat.add_assoc]
theorem opt_fieldAddr_pt {s ft : TypeId} {x : Operand} {f i g off o k : Nat} {ag : Bool} {e : TypeId} {cs : List TV} [hF : FdI P s f o ft] [hT : TyI P ft ag (k + 1)] (hx : evTV E x = some (.pt i g off)) (hi : Th[i]? = some ⟨g, some (e, cs)⟩) (o1 : okOpd P x = true) (hn : Nat.blt 0 cs.length = true) : OpT P X E Th (.fieldAddr s x f) (.pt i g (off + o)) Th .no :=
  opt_quiet (fun _ => .inl (by simp)) (by simp [Op.operands, o1]) fun T G p hr => by
    rw [Nat.blt_eq] at hn
    obtain ⟨b, vs, h1, h2, h3, h4⟩ := pt_inv hr (hr.ev hx o1) hi hn
    refine ⟨.pointer (some ⟨b, off + o, none⟩), ?_, .pt (hr.hr.known hi (Nat.le_refl _)) (fun c hc => ?_) trivial⟩
    · simp only [stepOp, h1, hF.fd, hT.sz]
    · rw [h2] at hc; cases hc; rfl
theorem opt_nilCheck_pt {x : Operand} {i g off : Nat} {e : TypeId} {cs : List TV} (hx : evTV E x = some (.pt i g off)) (hi : Th[i]? = some ⟨g, some (e, cs)⟩) (o1 : okOpd P x = true) (hn : Nat.blt 0 cs.length = true) : OpT P X E Th (.nilCheck x) (.pt i g off) Th .no :=
  opt_quiet (fun _ => .inl (by simp)) (by simp [Op.operands, o1]) fun T G p hr => by
    rw [Nat.blt_eq] at hn
    obtain ⟨b, vs, h1, h2, h3, h4⟩ := pt_inv hr (hr.ev hx o1) hi hn
    have hv := hr.ev hx o1
    rw [h1] at hv
    exact ⟨.pointer (some ⟨b, off, none⟩), by simp [stepOp, h1], hv⟩
end
end Go.Ab
namespace Go.Ab
section
variable {P : Program} {X : Cx} {E : TEnv} {Th : List Root}

theorem fz_inv {G : Heap} {D : Nat → Prop} {p : Pl} {t : Bool} {sz n : Nat} {cs : List TV} {w : Value} (h : VR G D p (.fz t sz n cs) w) :
    (w = .slice none 0 0 ∧ n = 0 ∧ cs = []) ∨ ∃ a cap vs, w = .slice (some a) n cap ∧ cellsA G a (n * sz) = some vs ∧ VRs G D p cs vs ∧ n ≤ cap ∧ (a.spot = some (sz + 1) ∨ a.spot = some 0) ∧ n < 2 ^ 62 ∧ 0 < sz ∧ Frz D p t a.block := by
  cases h with
  | fnil => exact .inl ⟨rfl, rfl, rfl⟩
  | fz a b c d e f g => exact .inr ⟨_, _, _, rfl, a, b, c, d, e, f, g⟩
theorem cells_len {G : Heap} {a : Addr} {n : Nat} {vs : List Value} (h : cellsA G a n = some vs) : vs.length = n := by
  unfold cellsA at h
  split at h
  · split at h
    · rename_i hle; cases h; simp; omega
    · cases h
  · cases h
theorem fz_lt {G : Heap} {D : Nat → Prop} {p : Pl} {t : Bool} {sz n : Nat} {cs : List TV} {w : Value} (h : VR G D p (.fz t sz n cs) w) : n < 2 ^ 62 ∧ cs.length = n * sz := by
  rcases fz_inv h with ⟨_, rfl, rfl⟩ | ⟨a, cap, vs, _, h2, h3, _, _, h4, _⟩
  · simp
  · exact ⟨h4, by rw [h3.length, cells_len h2]⟩

theorem opt_index_fz {t e : TypeId} {x i : Operand} {tg ag : Bool} {sz n : Nat} {cs : List TV} {k : IntKind} {j : Int} [hE : ElI P t e] [hT : TyI P e ag sz] (hx : evTV E x = some (.fz tg sz n cs)) (hi : evTV E i = some (.v (.int k j))) (o1 : okOpd P x = true) (o2 : okOpd P i = true) (h0 : 0 ≤ j) (hj : j < n) :
    OpT P X E Th (.indexAddr t x i) (.fp tg ((cs.drop (j.toNat * sz)).take sz) 0) Th .no :=
  opt_quiet (fun _ => .inl (by simp)) (by simp [Op.operands, o1, o2]) fun T G p hr => by
    rcases fz_inv (hr.ev hx o1) with ⟨_, rfl, _⟩ | ⟨a, cap, vs, h1, h2, h3, _, _, _, _, h4⟩
    · omega
    have hlt : (j.toNat + 1) * sz ≤ n * sz := Nat.mul_le_mul_right _ (by omega)
    rw [Nat.succ_mul] at hlt
    refine ⟨.pointer (some ⟨a.block, a.off + j.toNat * sz + 0, none⟩), ?_, ?_⟩
    · simp [stepOp, h1, (hr.ev hi o2).flat_eq, indexAddrA, hE.el, hT.sz, h0, hj]
    · have hcl : ((cs.drop (j.toNat * sz)).take sz).length = sz := by
        rw [List.length_take, List.length_drop, h3.length, cells_len h2]; omega
      exact .fp (by rw [hcl]; exact cellsA_sub h2 (by omega)) ((h3.drop _).take _) h4
theorem opt_index_fpa {t e : TypeId} {x i : Operand} {tg ag : Bool} {m sz off : Nat} {cs : List TV} {k : IntKind} {j : Int} [hA : ArI P t m e] [hT : TyI P e ag sz] (hx : evTV E x = some (.fp tg cs off)) (hi : evTV E i = some (.v (.int k j))) (o1 : okOpd P x = true) (o2 : okOpd P i = true) (h0 : 0 ≤ j) (hj : j < m) :
    OpT P X E Th (.indexAddr t x i) (.fp tg cs (off + j.toNat * sz)) Th .no :=
  opt_quiet (fun _ => .inl (by simp)) (by simp [Op.operands, o1, o2]) fun T G p hr => by
    obtain ⟨b, o', vs, h1, h2, h3, h4⟩ := fp_inv (hr.ev hx o1)
    refine ⟨.pointer (some ⟨b, o' + (off + j.toNat * sz), none⟩), ?_, .fp h2 h3 h4⟩
    simp [stepOp, h1, (hr.ev hi o2).flat_eq, indexAddrA, hA.ar, hT.sz, h0, hj, Nat.add_assoc]
theorem opt_index_pta {t e : TypeId} {x i : Operand} {ag : Bool} {m sz off l g : Nat} {e' : TypeId} {cs : List TV} {k : IntKind} {j : Int} [hA : ArI P t m e] [hT : TyI P e ag sz] (hx : evTV E x = some (.pt l g off)) (hl : Th[l]? = some ⟨g, some (e', cs)⟩) (hi : evTV E i = some (.v (.int k j))) (o1 : okOpd P x = true) (o2 : okOpd P i = true) (hn : Nat.blt 0 cs.length = true) (h0 : 0 ≤ j) (hj : j < m) :
    OpT P X E Th (.indexAddr t x i) (.pt l g (off + j.toNat * sz)) Th .no :=
  opt_quiet (fun _ => .inl (by simp)) (by simp [Op.operands, o1, o2]) fun T G p hr => by
    rw [Nat.blt_eq] at hn
    obtain ⟨b, vs, h1, h2, h3, h4⟩ := pt_inv hr (hr.ev hx o1) hl hn
    refine ⟨.pointer (some ⟨b, off + j.toNat * sz, none⟩), ?_, .pt (hr.hr.known hl (Nat.le_refl _)) (fun c hc => ?_) trivial⟩
    · simp [stepOp, h1, (hr.ev hi o2).flat_eq, indexAddrA, hA.ar, hT.sz, h0, hj]
    · rw [h2] at hc; cases hc; rfl
theorem own_inv {T : Array Value} {G : Heap} {p : Pl} (hr : Rl X E Th T G p) {i g sz off n cap : Nat} {e : TypeId} {cs : List TV} {w : Value} (h : VR G X.D p (.own i g sz off n cap) w) (hi : Th[i]? = some ⟨g, some (e, cs)⟩) :
    (∃ b vs, w = .slice (some ⟨b, off * sz, some (sz + 1)⟩) n cap ∧ p[i]? = some (g, some (some b)) ∧ G[b]? = some (some ⟨vs, e, false⟩) ∧ VRs G X.D p cs vs) ∨ (w = .slice none 0 0 ∧ n = 0 ∧ cap = 0 ∧ cs = [] ∧ p[i]? = some (g, some none)) := by
  cases h with
  | own _ k1 k2 _ =>
    rcases hr.hr.get hi with ⟨b, vs, h1, h2, h3, _⟩ | ⟨h1, h2⟩
    · exact .inl ⟨b, vs, k1 b h1, h1, h2, h3⟩
    · obtain ⟨q1, q2, q3⟩ := k2 h2
      exact .inr ⟨q1, q2, q3, h1, h2⟩
theorem opt_index_own {t e : TypeId} {x i : Operand} {ag : Bool} {sz l g off n cap : Nat} {e' : TypeId} {cs : List TV} {k : IntKind} {j : Int} [hE : ElI P t e] [hT : TyI P e ag sz] (hx : evTV E x = some (.own l g sz off n cap)) (hl : Th[l]? = some ⟨g, some (e', cs)⟩) (hi : evTV E i = some (.v (.int k j))) (o1 : okOpd P x = true) (o2 : okOpd P i = true) (h0 : 0 ≤ j) (hj : j < n) :
    OpT P X E Th (.indexAddr t x i) (.pt l g (off * sz + j.toNat * sz)) Th .no :=
  opt_quiet (fun _ => .inl (by simp)) (by simp [Op.operands, o1, o2]) fun T G p hr => by
    rcases own_inv hr (hr.ev hx o1) hl with ⟨b, vs, h1, h2, h3, h4⟩ | ⟨_, rfl, _⟩
    · refine ⟨.pointer (some ⟨b, off * sz + j.toNat * sz, none⟩), ?_, .pt (hr.hr.known hl (Nat.le_refl _)) (fun c hc => ?_) trivial⟩
      · simp [stepOp, h1, (hr.ev hi o2).flat_eq, indexAddrA, hE.el, hT.sz, h0, hj]
      · rw [h2] at hc; cases hc; rfl
    · omega

theorem opt_len_fz {x : Operand} {t e : TypeId} {ts : Array TypeId} {tg : Bool} {sz n : Nat} {cs : List TV} [hE : ElI P t e] (hx : evTV E x = some (.fz tg sz n cs)) (o1 : okOpd P x = true) (ht : ts.toList = [t]) :
    OpT P X E Th (.call { callee := .builtin .len, args := #[x], argTypes := ts }) (.v (.int .i64 (n : Int))) Th .no :=
  opt_quiet (nocall (by simp)) (by simp [Op.operands, Call.operands, o1]) fun T G p hr => by
    refine ⟨_, ?_, .flat rfl⟩
    rcases fz_inv (hr.ev hx o1) with ⟨h1, rfl, _⟩ | ⟨a, cap, vs, h1, _⟩ <;> simp [stepOp, h1, ht, hE.un]
theorem opt_len_own {x : Operand} {t e : TypeId} {ts : Array TypeId} {l g sz off n cap : Nat} {e' : TypeId} {cs : List TV} [hE : ElI P t e] (hx : evTV E x = some (.own l g sz off n cap)) (hl : Th[l]? = some ⟨g, some (e', cs)⟩) (o1 : okOpd P x = true) (ht : ts.toList = [t]) :
    OpT P X E Th (.call { callee := .builtin .len, args := #[x], argTypes := ts }) (.v (.int .i64 (n : Int))) Th .no :=
  opt_quiet (nocall (by simp)) (by simp [Op.operands, Call.operands, o1]) fun T G p hr => by
    refine ⟨_, ?_, .flat rfl⟩
    rcases own_inv hr (hr.ev hx o1) hl with ⟨b, vs, h1, _⟩ | ⟨h1, rfl, _⟩ <;> simp [stepOp, h1, ht, hE.un]
def slEv (E : TEnv) (P : Program) : Option Operand → Nat → Nat → Prop
  | none, l, d => l = d
  | some o, l, _ => okOpd P o = true ∧ ∃ k, evTV E o = some (.v (.int k (l : Int)))
theorem slEv_int {lo : Option Operand} {l d : Nat} (h : slEv E P lo l d) {T : Array Value} {G : Heap} {p : Pl} (hr : Rl X E Th T G p) : ∃ r, intOf? (lo.map (evT T)) = some r ∧ r.getD (d : Int) = (l : Int) := by
  cases lo with
  | none => simp only [slEv] at h; subst h; exact ⟨none, rfl, rfl⟩
  | some o =>
    obtain ⟨h1, k, h2⟩ := h
    exact ⟨some l, by simp [(hr.ev h2 h1).flat_eq, intOf?], rfl⟩
theorem slEv_ok {lo : Option Operand} {l d : Nat} (h : slEv E P lo l d) : (∀ o, lo = some o → okOpd P o = true) := by
  intro o ho; subst ho; exact h.1
theorem opt_slice_fz {t e : TypeId} {x : Operand} {lo hi : Option Operand} {tg ag : Bool} {sz n l h : Nat} {cs : List TV} [hE : ElI P t e] [hT : TyI P e ag sz] (hx : evTV E x = some (.fz tg sz n cs)) (o1 : okOpd P x = true) (hlo : slEv E P lo l 0) (hhi : slEv E P hi h n) (hl : l ≤ h) (hh : h ≤ n) :
    OpT P X E Th (.slice t x lo hi none) (.fz tg sz (h - l) ((cs.drop (l * sz)).take ((h - l) * sz))) Th .no := by
  refine opt_quiet (fun _ => .inl (by simp)) ?_ fun T G p hr => ?_
  · have h1 := slEv_ok hlo
    have h2 := slEv_ok hhi
    cases lo <;> cases hi <;> simp_all [Op.operands]
  obtain ⟨lo1, e1, e2⟩ := slEv_int hlo hr
  obtain ⟨hi1, e3, e4⟩ := slEv_int hhi hr
  have hm : intOf? (Option.map (evT T) none) = some none := rfl
  rcases fz_inv (hr.ev hx o1) with ⟨h1, rfl, rfl⟩ | ⟨a, cap, vs, h1, h2, h3, h4, h5, h6, h7, h8⟩
  · have hl0 : l = 0 := by omega
    have hh0 : h = 0 := by omega
    subst hl0 hh0
    refine ⟨.slice none 0 0, ?_, ?_⟩
    · simp only [stepOp, h1, sliceA, e1, e3, hm, hE.el, hT.sz]
      have e5 : (none : Option Int).getD 0 = 0 := rfl
      have e6 : hi1.getD 0 = 0 := by simpa using e4
      have e7 : lo1.getD 0 = 0 := by simpa using e2
      simp [e6, e7]
    · simp; exact .fnil
  · have hle : l * sz + (h - l) * sz ≤ n * sz := by rw [← Nat.add_mul]; exact Nat.mul_le_mul_right _ (by omega)
    have hsub : ∀ sp, cellsA G ⟨a.block, a.off + l * sz, sp⟩ ((h - l) * sz) = some ((vs.drop (l * sz)).take ((h - l) * sz)) := fun _ => cellsA_sub h2 hle
    have hvs := (h3.drop (l * sz)).take ((h - l) * sz)
    have e2' : lo1.getD 0 = (l : Int) := by simpa using e2
    rcases h5 with h5 | h5
    · refine ⟨.slice (some ⟨a.block, a.off + l * sz, some (sz + 1)⟩) (h - l) (cap - l), ?_, .fz (hsub _) hvs (by omega) (.inl rfl) (by omega) h7 h8⟩
      simp only [stepOp, h1, sliceA, e1, e3, hm, hE.el, hT.sz, e2', e4, Option.getD_none, h5]
      rw [if_pos ⟨by omega, by omega, by omega, by omega, by omega, by omega, h7, by simp, h4⟩]
      simp
    · refine ⟨.slice (some ⟨a.block, if cap = l then a.off else a.off + l * sz, some 0⟩) (h - l) (cap - l), ?_, .fz ?_ hvs (by omega) (.inr rfl) (by omega) h7 h8⟩
      · simp only [stepOp, h1, sliceA, e1, e3, hm, hE.el, hT.sz, e2', e4, Option.getD_none, h5]
        rw [if_pos ⟨by omega, by omega, by omega, by omega, by omega, by omega, h7, by simp, h4⟩]
        simp
      · by_cases hcl : cap = l
        · simp only [hcl, if_true]
          have hhl : h - l = 0 := by omega
          rw [hhl]
          simp only [Nat.zero_mul, List.take_zero]
          have h9 := h2
          unfold cellsA at h9 ⊢
          split at h9
          · rename_i B hB
            simp only [hB]
            split at h9
            · rw [if_pos (by omega)]; simp
            · cases h9
          · cases h9
        · simp only [hcl, if_false]; exact hsub _
theorem opt_slice_own {t e : TypeId} {x : Operand} {lo hi : Option Operand} {ag : Bool} {sz i g off n cap l h : Nat} {e' : TypeId} {cs : List TV} [hE : ElI P t e] [hT : TyI P e ag sz] (hx : evTV E x = some (.own i g sz off n cap)) (hi' : Th[i]? = some ⟨g, some (e', cs)⟩) (o1 : okOpd P x = true) (hlo : slEv E P lo l 0) (hhi : slEv E P hi h n) (hl : l ≤ h) (hh : h ≤ n) (hc : n ≤ cap) (h0 : 0 < sz) :
    OpT P X E Th (.slice t x lo hi none) (.own i g sz (off + l) (h - l) (cap - l)) Th .no := by
  refine opt_quiet (fun _ => .inl (by simp)) ?_ fun T G p hr => ?_
  · have h1 := slEv_ok hlo
    have h2 := slEv_ok hhi
    cases lo <;> cases hi <;> simp_all [Op.operands]
  obtain ⟨lo1, e1, e2⟩ := slEv_int hlo hr
  obtain ⟨hi1, e3, e4⟩ := slEv_int hhi hr
  have hm : intOf? (Option.map (evT T) none) = some none := rfl
  have e2' : lo1.getD 0 = (l : Int) := by simpa using e2
  rcases own_inv hr (hr.ev hx o1) hi' with ⟨b, vs, h1, h2, h3, h4⟩ | ⟨h1, rfl, rfl, h2, h3⟩
  · refine ⟨.slice (some ⟨b, (off + l) * sz, some (sz + 1)⟩) (h - l) (cap - l), ?_, .own (hr.hr.known hi' (Nat.le_refl _)) (fun c hc => ?_) (fun hc => ?_) trivial⟩
    · simp only [stepOp, h1, sliceA, e1, e3, hm, hE.el, hT.sz, e2', e4, Option.getD_none]
      rw [if_pos ⟨by omega, by omega, by omega, by omega, by omega, by omega, h0, by simp, hc⟩]
      simp [Nat.add_mul]
    · rw [h2] at hc; cases hc; rfl
    · rw [h2] at hc; cases hc
  · have hl0 : l = 0 := by omega
    have hh0 : h = 0 := by omega
    subst hl0 hh0
    refine ⟨.slice none 0 0, ?_, .own (hr.hr.known hi' (Nat.le_refl _)) (fun c hc => ?_) (fun _ => ⟨rfl, by omega, by omega⟩) trivial⟩
    · simp only [stepOp, h1, sliceA, e1, e3, hm, hE.el, hT.sz]
      have e6 : hi1.getD 0 = 0 := by simpa using e4
      have e7 : lo1.getD 0 = 0 := by simpa using e2
      simp [e6, e7]
    · rw [h3] at hc; cases hc

theorem opt_new {op : Op} {x : TV} {cs : List TV} {e : TypeId} {ok1 : TV} (hc : ∀ c, op ≠ .call c ∨ ∀ f, c.callee ≠ .value f) (ok : op.operands.toList.all (okOpd P) = true)
    (h : ∀ T G p, Rl X E Th T G p → ∃ v vs, stepOp P (evT T) op G = some (v, G.push (some ⟨vs, e, false⟩)) ∧ VRs G X.D p cs vs ∧ VR (G.push (some ⟨vs, e, false⟩)) X.D (p ++ [(0, some (some G.size))]) x v) : OpT P X E Th op x (Th ++ [⟨0, some (e, cs)⟩]) .no :=
  ⟨⟨hc, ok⟩, fun T G p hr => by
    obtain ⟨v, vs, h1, h2, h3⟩ := h T G p hr
    exact ⟨v, _, _, h1, StR.push hr.hr _, hr.hr.push hr.d h2, h3⟩⟩
theorem push_own (p : Pl) (b : Nat) : (p ++ [(0, some (some b))])[p.length]? = some (0, some (some b)) := by simp
theorem opt_box {e : TypeId} {x : Operand} {a : TV} {n : Nat} {ag : Bool} [hT : TyI P e ag n] (hx : evTV E x = some a) (o1 : okOpd P x = true) (ha : a.noTup) : OpT P X E Th (.box e x) (.pt Th.length 0 0) (Th ++ [⟨0, some (e, a.cells)⟩]) .no :=
  opt_new (ok1 := a) (fun _ => .inl (by simp)) (by simp [Op.operands, o1]) fun T G p hr => by
    have hv := hr.ev hx o1
    refine ⟨.pointer (some ⟨G.size, 0, none⟩), (evT T x).cells.toList, by simp [stepOp, hT.sz, hv.noTup ha, newA], hv.cells ha, .pt ⟨0, _, by rw [← hr.hr.len]; exact push_own p _, Nat.le_refl _⟩ (fun b hb => ?_) trivial⟩
    rw [← hr.hr.len, push_own] at hb; cases hb; rfl
theorem opt_alloc {e : TypeId} {z : Value} {by_ : Nat} [hB : ByI P e by_ z] (hf : flat z = true) : OpT P X E Th (.alloc e) (.pt Th.length 0 0) (Th ++ [⟨0, some (e, (ofVal z).cells)⟩]) .no :=
  opt_new (ok1 := .v z) (fun _ => .inl (by simp)) (by simp [Op.operands]) fun T G p hr => by
    have hv : VR G X.D p (ofVal z) z := vr_ofVal hf
    have hn : (ofVal z).noTup := by cases z <;> first | trivial | simp [flat, flat1] at hf
    refine ⟨.pointer (some ⟨G.size, 0, none⟩), z.cells.toList, by simp [stepOp, hB.ze, hf, newA], hv.cells hn, .pt ⟨0, _, by rw [← hr.hr.len]; exact push_own p _, Nat.le_refl _⟩ (fun b hb => ?_) trivial⟩
    rw [← hr.hr.len, push_own] at hb; cases hb; rfl
theorem frz_le (G : Heap) (p : Pl) (x : Option Blk) (h : ∀ b, isOwn p b → b < G.size) : LeP G p (G.push x) p ∧ (∀ b, isOwn p b → (G.push x)[b]? = G[b]?) ∧ ¬ isOwn p G.size := by
  have hg : ∀ {b}, b < G.size → (G.push x)[b]? = G[b]? := fun hb => by rw [Array.getElem?_push, if_neg (by omega)]
  refine ⟨⟨by simp, fun b hb ho => ⟨hg hb, ho⟩, fun i g o hi => ⟨g, o, hi, .inl ⟨rfl, .inl rfl⟩⟩⟩, fun b hb => hg (h b hb), fun ho => absurd (h _ ho) (by omega)⟩
theorem opt_newF {op : Op} {x : TV} {cs : List TV} {e : TypeId} (hc : ∀ c, op ≠ .call c ∨ ∀ f, c.callee ≠ .value f) (ok : op.operands.toList.all (okOpd P) = true)
    (h : ∀ T G p, Rl X E Th T G p → ∃ v vs, stepOp P (evT T) op G = some (v, G.push (some ⟨vs, e, false⟩)) ∧ VRs G X.D p cs vs ∧ (∀ G', VRs G' X.D p cs vs → G'[G.size]? = some (some ⟨vs, e, false⟩) → Frz X.D p false G.size → VR G' X.D p x v)) : OpT P X E Th op x Th .no :=
  ⟨⟨hc, ok⟩, fun T G p hr => by
    obtain ⟨v, vs, h1, h2, h3⟩ := h T G p hr
    have hlt : ∀ b, isOwn p b → b < G.size := fun b ⟨i, g, hi⟩ => hr.hr.lt hi
    obtain ⟨k1, k2, k3⟩ := frz_le G p (some ⟨vs, e, false⟩) hlt
    exact ⟨v, _, p, h1, StR.same k1 k2, hr.hr.mono k1 k2, h3 _ (h2.mono k1) (by simp) ⟨fun _ hd => absurd (hr.d _ hd) (by omega), k3⟩⟩⟩
theorem cells_all {G : Heap} {b : Nat} {vs : List Value} {e : TypeId} {ro : Bool} {sp : Option Nat} {n : Nat} (h : G[b]? = some (some ⟨vs, e, ro⟩)) (hn : n = vs.length) : cellsA G ⟨b, 0, sp⟩ n = some vs := by
  subst hn
  simp [cellsA, h]
theorem opt_box_fz {e : TypeId} {x : Operand} {a : TV} {n : Nat} {ag : Bool} [hT : TyI P e ag n] (hx : evTV E x = some a) (o1 : okOpd P x = true) (ha : a.noTup) : OpT P X E Th (.box e x) (.fp false a.cells 0) Th .no :=
  opt_newF (cs := a.cells) (e := e) (fun _ => .inl (by simp)) (by simp [Op.operands, o1]) fun T G p hr => by
    have hv := hr.ev hx o1
    have hc := hv.cells ha
    refine ⟨.pointer (some ⟨G.size, 0, none⟩), (evT T x).cells.toList, by simp [stepOp, hT.sz, hv.noTup ha, newA], hc, fun G' h1 h2 h3 => ?_⟩
    exact .fp (o := 0) (cells_all h2 h1.length) h1 h3

def setMany : List TV → Nat → List TV → List TV
  | cs, _, [] => cs
  | cs, o, c :: r => setMany (cs.set o c) (o + 1) r
theorem fillCells_vr {G : Heap} {D : Nat → Prop} {p : Pl} : ∀ {y : List TV} {vs : List Value}, VRs G D p y vs → ∀ (k off : Nat) {cs : List TV} {A : Array Value}, VRs G D p cs A.toList → VRs G D p (setMany cs (off + k) y) ((vs.zipIdx k).foldl (fun A (q : Value × Nat) => A.setIfInBounds (off + q.2) q.1) A).toList
  | _, _, .nil, k, off, cs, A, h => by simpa [setMany] using h
  | _, _, .cons a b, k, off, cs, A, h => by
    simp only [setMany, List.zipIdx_cons, List.foldl_cons]
    refine fillCells_vr b (k + 1) off ?_
    rw [Array.toList_setIfInBounds]
    refine VRs.mk (by simp [h.length]) fun i c v hi hv => ?_
    rw [List.getElem?_set] at hi hv
    split at hi
    · rename_i e
      rw [if_pos e] at hv
      split at hi
      · cases hi
        split at hv
        · cases hv; exact a
        · cases hv
      · cases hi
    · rename_i e
      rw [if_neg e] at hv
      obtain ⟨v', h1, h2⟩ := h.get hi
      rw [hv] at h1; cases h1; exact h2
def fillT (place : Nat → Option (Nat × Nat)) : List TV → List (Nat × TV) → Option (List TV)
  | cs, [] => some cs
  | cs, (i, x) :: rest => match place i with
    | none => none
    | some (off, size) => if Nat.beq x.cells.length size && Nat.ble (off + x.cells.length) cs.length then fillT place (setMany cs off x.cells) rest else none
inductive PartsR (G : Heap) (D : Nat → Prop) (p : Pl) : List (Nat × TV) → List (Nat × Value) → Prop
  | nil : PartsR G D p [] []
  | cons {i : Nat} {x : TV} {v : Value} {l : List (Nat × TV)} {m : List (Nat × Value)} : VR G D p x v → x.noTup → PartsR G D p l m → PartsR G D p ((i, x) :: l) ((i, v) :: m)
theorem fill_vr {G : Heap} {D : Nat → Prop} {p : Pl} {place : Nat → Option (Nat × Nat)} : ∀ {l : List (Nat × TV)} {m : List (Nat × Value)}, PartsR G D p l m → ∀ {cs r : List TV} {A : Array Value}, VRs G D p cs A.toList → fillT place cs l = some r → ∃ B, Instr.fill place A m = some B ∧ VRs G D p r B.toList
  | _, _, .nil, cs, r, A, h, hf => by simp [fillT] at hf; subst hf; exact ⟨A, rfl, h⟩
  | (i, x) :: l, _, .cons (v := v) (m := m) a b c, cs, r, A, h, hf => by
    simp only [fillT] at hf
    split at hf
    · cases hf
    · rename_i off size hp
      split at hf
      · rename_i hc
        simp only [Bool.and_eq_true, Nat.beq_eq, Nat.ble_eq] at hc
        have hcl := a.cells b
        have hlen : v.cells.size = x.cells.length := by rw [hcl.length]; simp
        have h2 := fillCells_vr hcl 0 off h
        obtain ⟨B, h3, h4⟩ := fill_vr c h2 (by simpa using hf)
        refine ⟨B, ?_, h4⟩
        simp only [Instr.fill, hp]
        rw [if_neg (by simp only [Bool.or_eq_true, decide_eq_true_eq, not_or]; rw [hlen]; have := h.length; simp only [Array.length_toList] at this; refine ⟨by simp; omega, by omega⟩)]
        have e : v.cells.zipIdx.foldl (fun cs x => cs.setIfInBounds (off + x.2) x.1) A = (v.cells.toList.zipIdx 0).foldl (fun A (q : Value × Nat) => A.setIfInBounds (off + q.2) q.1) A := by
          rw [← Array.foldl_toList]; simp
        rw [← h3, ← e]
      · cases hf
theorem PartsR.noTup {G : Heap} {D : Nat → Prop} {p : Pl} : ∀ {l : List (Nat × TV)} {m : List (Nat × Value)}, PartsR G D p l m → (m.all fun q => notTuple q.2) = true
  | _, _, .nil => rfl
  | _, _, .cons a b c => by simp only [List.all_cons, Bool.and_eq_true]; exact ⟨a.noTup b, c.noTup⟩
def partsT (E : TEnv) : List (Nat × Operand) → Option (List (Nat × TV))
  | [] => some []
  | (i, o) :: l => match evTV E o, partsT E l with
    | some x, some r => some ((i, x) :: r)
    | _, _ => none
def noTupB : TV → Bool
  | .tup _ => false
  | _ => true
theorem noTupB_ok {x : TV} (h : noTupB x = true) : x.noTup := by cases x <;> first | trivial | cases h
theorem partsT_r {T : Array Value} {G : Heap} {p : Pl} (hr : Rl X E Th T G p) : ∀ {l : List (Nat × Operand)} {r : List (Nat × TV)}, partsT E l = some r → (l.all fun q => okOpd P q.2) = true → (r.all fun q => noTupB q.2) = true → PartsR G X.D p r (l.map fun (i, x) => (i, evT T x))
  | [], r, h, _, _ => by simp [partsT] at h; subst h; exact .nil
  | (i, o) :: l, r, h, ok, hn => by
    simp only [partsT] at h
    split at h
    · rename_i x r' h1 h2
      cases h
      simp only [List.all_cons, Bool.and_eq_true] at ok hn
      exact .cons (hr.ev h1 ok.1) (noTupB_ok hn.1) (partsT_r hr h2 ok.2 hn.2)
    · cases h
class StI (P : Program) (t : TypeId) (place : outParam (Nat → Option (Nat × Nat))) (z : outParam Value) : Prop where
  ze : zeroA P t = some z
  fl : flat z = true
  st : ∀ parts, (parts.all fun p => notTuple p.2) = true → buildA P t parts = (Instr.fill place z.cells parts).map .agg
theorem build_ok (ops : List (Nat × Operand)) {t : TypeId} (parts : Array (Nat × Operand)) (h : parts.toList = ops) (ok : (ops.all fun q => okOpd P q.2) = true) : (Op.build t parts).operands.toList.all (okOpd P) = true := by
  subst h
  simpa [Op.operands, List.all_map, Function.comp_def] using ok
theorem opt_build {t : TypeId} {parts : Array (Nat × Operand)} {place : Nat → Option (Nat × Nat)} {z : Value} [hS : StI P t place z] {r : List (Nat × TV)} {cs : List TV} (hp : partsT E parts.toList = some r) (ok : (parts.toList.all fun q => okOpd P q.2) = true) (hn : (r.all fun q => noTupB q.2) = true) (hf : fillT place (ofVal z).cells r = some cs) : OpT P X E Th (.build t parts) (.agg cs) Th .no :=
  opt_quiet (fun _ => .inl (by simp)) (build_ok _ parts rfl ok) fun T G p hr => by
    have hr' := partsT_r (P := P) hr hp ok hn
    have hz : VR G X.D p (ofVal z) z := vr_ofVal hS.fl
    have hnz : (ofVal z).noTup := by have := hS.fl; cases z <;> first | trivial | simp [flat, flat1] at this
    obtain ⟨B, h1, h2⟩ := fill_vr hr' (hz.cells hnz) hf
    obtain ⟨B⟩ := B
    exact ⟨.agg ⟨B⟩, by simp only [stepOp, hS.st _ hr'.noTup, h1, Option.map_some], .agg h2⟩
end
end Go.Ab
namespace Go.Ab
section
variable {P : Program} {X : Cx} {E : TEnv} {Th : List Root}

theorem rep_get {α : Type} (l : List α) (hl : 0 < l.length) : ∀ (c i : Nat), i < c * l.length → (List.replicate c l).flatten[i]? = l[i % l.length]?
  | 0, i, h => by simp at h
  | c + 1, i, h => by
    rw [List.replicate_succ, List.flatten_cons, List.getElem?_append]
    split
    · rename_i hi; rw [Nat.mod_eq_of_lt hi]
    · rename_i hi
      rw [rep_get l hl c (i - l.length) (by rw [Nat.succ_mul] at h; omega)]
      congr 1
      rw [Nat.mod_eq_sub_mod (a := i) (by omega)]
theorem rep_len {α : Type} (l : List α) (c : Nat) : (List.replicate c l).flatten.length = c * l.length := by simp
theorem zerosA_eq {z : Value} {c : Nat} (h0 : 0 < z.cells.size) : zerosA z (c * z.cells.size) = (List.replicate c z.cells.toList).flatten := by
  have hl : z.cells.toList.length = z.cells.size := by simp
  apply List.ext_getElem?
  intro i
  unfold zerosA
  rw [List.getElem?_map]
  by_cases hi : i < c * z.cells.size
  · rw [rep_get _ (by rw [hl]; exact h0) c i (by rw [hl]; exact hi), hl]
    have hm : i % z.cells.size < z.cells.size := Nat.mod_lt _ h0
    simp [hi, hm]
  · rw [List.getElem?_eq_none (by simp; omega), List.getElem?_eq_none (by rw [rep_len, hl]; omega)]
    rfl
def zerosT (z : Value) (c : Nat) : List TV := (List.replicate c (ofVal z).cells).flatten
theorem flat_noTup {z : Value} (h : flat z = true) : (ofVal z).noTup := by cases z <;> first | trivial | simp [flat, flat1] at h
theorem zerosT_vr {G : Heap} {D : Nat → Prop} {p : Pl} {z : Value} (hf : flat z = true) (h0 : 0 < z.cells.size) (c : Nat) : VRs G D p (zerosT z c) (zerosA z (c * z.cells.size)) := by
  rw [zerosA_eq h0]
  have hv := (vr_ofVal (G := G) (D := D) (p := p) hf).cells (flat_noTup hf)
  unfold zerosT
  induction c with
  | zero => exact .nil
  | succ c ih => rw [List.replicate_succ, List.replicate_succ, List.flatten_cons, List.flatten_cons]; exact hv.append ih

theorem lit_run {t e : TypeId} {ag : Bool} {sz len by_ : Nat} {z : Value} {parts : Array (Nat × Operand)} [hE : ElI P t e] [hT : TyI P e ag sz] [hB : ByI P e by_ z] {r : List (Nat × TV)} {cs : List TV} (hp : partsT E parts.toList = some r) (ok : (parts.toList.all fun q => okOpd P q.2) = true) (hn : (r.all fun q => noTupB q.2) = true)
    (hl : len * sz ≤ 2 ^ 24) (h0 : 0 < sz) (hz : z.cells.size = sz) (hzf : flat z = true) (hf : fillT (fun i => some (i * sz, sz)) (zerosT z len) r = some cs) {T : Array Value} {G : Heap} {p : Pl} (hr : Rl X E Th T G p) :
    ∃ vs, buildSliceA P G t len (parts.toList.map fun (i, x) => (i, evT T x)) = some (.slice (some ⟨G.size, 0, some (sz + 1)⟩) len len, G.push (some ⟨vs, e, false⟩)) ∧ VRs G X.D p cs vs := by
  have hr' := partsT_r (P := P) hr hp ok hn
  have h1 := zerosT_vr (G := G) (D := X.D) (p := p) hzf (by omega) len
  rw [hz] at h1
  obtain ⟨B, h2, h3⟩ := fill_vr (A := (zerosA z (len * sz)).toArray) hr' (by simpa using h1) hf
  refine ⟨B.toList, ?_, h3⟩
  simp only [buildSliceA, hE.el, hT.sz, hB.ze]
  rw [if_pos ⟨hl, h0, hz, hzf, hr'.noTup⟩, h2]
theorem setMany_len : ∀ (xs : List TV) (cs : List TV) (o : Nat), (setMany cs o xs).length = cs.length
  | [], cs, o => rfl
  | c :: r, cs, o => by rw [setMany, setMany_len r]; simp
theorem fillT_len {place : Nat → Option (Nat × Nat)} : ∀ {l : List (Nat × TV)} {cs r : List TV}, fillT place cs l = some r → r.length = cs.length
  | [], cs, r, h => by simp [fillT] at h; subst h; rfl
  | (i, x) :: l, cs, r, h => by
    simp only [fillT] at h
    split at h
    · cases h
    · split at h
      · rw [fillT_len h, setMany_len]
      · cases h
theorem zerosT_len {z : Value} (hf : flat z = true) (c : Nat) : (zerosT z c).length = c * z.cells.size := by
  unfold zerosT
  rw [rep_len]
  have := ((vr_ofVal (G := #[]) (D := fun _ => False) (p := []) hf).cells (flat_noTup hf)).length
  rw [this]; simp
theorem lit_ok {t : TypeId} {len : Nat} {parts : Array (Nat × Operand)} (ok : (parts.toList.all fun q => okOpd P q.2) = true) : (Op.buildSlice t len parts).operands.toList.all (okOpd P) = true := by
  simpa [Op.operands, List.all_map, Function.comp_def] using ok
theorem opt_lit {t e : TypeId} {ag : Bool} {sz len by_ : Nat} {z : Value} {parts : Array (Nat × Operand)} [hE : ElI P t e] [hT : TyI P e ag sz] [hB : ByI P e by_ z] {r : List (Nat × TV)} {cs : List TV} (hp : partsT E parts.toList = some r) (ok : (parts.toList.all fun q => okOpd P q.2) = true) (hn : (r.all fun q => noTupB q.2) = true)
    (hl : Nat.ble (len * sz) 1000000 = true) (h0 : Nat.blt 0 sz = true) (hz : z.cells.size = sz) (hzf : flat z = true) (hf : fillT (fun i => some (i * sz, sz)) (zerosT z len) r = some cs) : OpT P X E Th (.buildSlice t len parts) (.fz false sz len cs) Th .no :=
  opt_newF (cs := cs) (e := e) (fun _ => .inl (by simp)) (lit_ok ok) fun T G p hr => by
    rw [Nat.ble_eq] at hl; rw [Nat.blt_eq] at h0
    obtain ⟨vs, h1, h2⟩ := lit_run (hE := hE) (hT := hT) (hB := hB) (Th := Th) (X := X) hp ok hn (by omega) h0 hz hzf hf hr
    refine ⟨.slice (some ⟨G.size, 0, some (sz + 1)⟩) len len, vs, by simp only [stepOp, h1], h2, fun G' h3 h4 h5 => ?_⟩
    have hlen : cs.length = len * sz := by rw [fillT_len hf, zerosT_len hzf, hz]
    have : len ≤ len * sz := Nat.le_mul_of_pos_right _ h0
    exact .fz (cells_all h4 (by rw [← h3.length, hlen])) h3 (Nat.le_refl _) (.inl rfl) (by omega) h0 h5
theorem opt_litO {t e : TypeId} {ag : Bool} {sz len by_ : Nat} {z : Value} {parts : Array (Nat × Operand)} [hE : ElI P t e] [hT : TyI P e ag sz] [hB : ByI P e by_ z] {r : List (Nat × TV)} {cs : List TV} (hp : partsT E parts.toList = some r) (ok : (parts.toList.all fun q => okOpd P q.2) = true) (hn : (r.all fun q => noTupB q.2) = true)
    (hl : Nat.ble (len * sz) 1000000 = true) (h0 : Nat.blt 0 sz = true) (hz : z.cells.size = sz) (hzf : flat z = true) (hf : fillT (fun i => some (i * sz, sz)) (zerosT z len) r = some cs) : OpT P X E Th (.buildSlice t len parts) (.own Th.length 0 sz 0 len len) (Th ++ [⟨0, some (e, cs)⟩]) .no :=
  opt_new (ok1 := .v z) (cs := cs) (e := e) (fun _ => .inl (by simp)) (lit_ok ok) fun T G p hr => by
    rw [Nat.ble_eq] at hl; rw [Nat.blt_eq] at h0
    obtain ⟨vs, h1, h2⟩ := lit_run (hE := hE) (hT := hT) (hB := hB) (Th := Th) (X := X) hp ok hn (by omega) h0 hz hzf hf hr
    refine ⟨.slice (some ⟨G.size, 0, some (sz + 1)⟩) len len, vs, by simp only [stepOp, h1], h2, .own ⟨0, _, by rw [← hr.hr.len]; exact push_own p _, Nat.le_refl _⟩ (fun b hb => ?_) (fun hb => ?_) trivial⟩
    · rw [← hr.hr.len, push_own] at hb; cases hb; simp
    · rw [← hr.hr.len, push_own] at hb; cases hb
theorem opt_make {t e : TypeId} {ag : Bool} {sz by_ l c : Nat} {k k' : IntKind} {z : Value} {x y : Operand} [hE : ElI P t e] [hT : TyI P e ag sz] [hB : ByI P e by_ z] (hx : evTV E x = some (.v (.int k (l : Int)))) (hy : evTV E y = some (.v (.int k' (c : Int)))) (o1 : okOpd P x = true) (o2 : okOpd P y = true)
    (hlc : l ≤ c) (hb : by_ * c ≤ 2 ^ 47) (hc : c ≤ 2 ^ 47) (h0 : Nat.blt 0 sz = true) (hz : z.cells.size = sz) (hzf : flat z = true) : OpT P X E Th (.makeSlice t x y) (.own Th.length 0 sz 0 l c) (Th ++ [⟨0, some (e, zerosT z c)⟩]) .no :=
  opt_new (ok1 := .v z) (cs := zerosT z c) (e := e) (fun _ => .inl (by simp)) (by simp [Op.operands, o1, o2]) fun T G p hr => by
    rw [Nat.blt_eq] at h0
    refine ⟨.slice (some ⟨G.size, 0, some (sz + 1)⟩) l c, zerosA z (c * sz), ?_, by rw [← hz]; exact zerosT_vr hzf (by omega) c, .own ⟨0, _, by rw [← hr.hr.len]; exact push_own p _, Nat.le_refl _⟩ (fun b hb => ?_) (fun hb => ?_) trivial⟩
    · simp only [stepOp, (hr.ev hx o1).flat_eq, (hr.ev hy o2).flat_eq, makeSliceA, hE.el, hT.sz, hB.bt, hB.ze]
      rw [if_pos ⟨by omega, by omega, by omega, by omega, h0, hz, hzf⟩]
      simp
    · rw [← hr.hr.len, push_own] at hb; cases hb; simp
    · rw [← hr.hr.len, push_own] at hb; cases hb

inductive Src (Th : List Root) (sz : Nat) : TV → Nat → List TV → Prop
  | fz {t : Bool} {k : Nat} {ds : List TV} : Src Th sz (.fz t sz k ds) k ds
  | own {j g off k cap : Nat} {e : TypeId} {cs : List TV} : Th[j]? = some ⟨g, some (e, cs)⟩ → off * sz + k * sz ≤ cs.length → Src Th sz (.own j g sz off k cap) k ((cs.drop (off * sz)).take (k * sz))
  | nil : Src Th sz (.v (.slice none 0 0)) 0 []
theorem src_cells {T : Array Value} {G : Heap} {p : Pl} (hr : Rl X E Th T G p) {sz k : Nat} {x : TV} {ds : List TV} {w : Value} (hs : Src Th sz x k ds) (h : VR G X.D p x w) : ∃ xb xc vs, w = .slice xb k xc ∧ sliceCells G sz w = some vs ∧ VRs G X.D p ds vs ∧ vs.length = k * sz := by
  cases hs with
  | fz =>
    rcases fz_inv h with ⟨rfl, rfl, rfl⟩ | ⟨a, cap, vs, rfl, h2, h3, _⟩
    · exact ⟨none, 0, [], rfl, rfl, .nil, by simp⟩
    · exact ⟨_, _, vs, rfl, h2, h3, cells_len h2⟩
  | @own j g off k cap e cs hj hle =>
    rcases own_inv hr h hj with ⟨b, vs, rfl, h2, h3, h4⟩ | ⟨rfl, rfl, _, rfl, _⟩
    · refine ⟨_, _, (vs.drop (off * sz)).take (k * sz), rfl, ?_, (h4.drop _).take _, ?_⟩
      · simp only [sliceCells, cellsA, h3]
        rw [if_pos (by rw [← h4.length]; exact hle)]
      · rw [List.length_take, List.length_drop, ← h4.length]; omega
    · exact ⟨none, 0, [], rfl, rfl, by simp; exact .nil, by simp⟩
  | nil => rw [h.flat_eq]; exact ⟨none, 0, [], rfl, rfl, .nil, by simp⟩
theorem opt_append {t e : TypeId} {ag : Bool} {sz by_ i g off n cap k : Nat} {z : Value} {x y : Operand} {b : TV} {cs ds : List TV} [hE : ElI P t e] [hT : TyI P e ag sz] [hB : ByI P e by_ z] (hx : evTV E x = some (.own i g sz off n cap)) (hy : evTV E y = some b) (hi : Th[i]? = some ⟨g, some (e, cs)⟩) (hs : Src Th sz b k ds) (o1 : okOpd P x = true) (o2 : okOpd P y = true)
    (h0 : Nat.blt 0 sz = true) (hz : z.cells.size = sz) (hle : off * sz + n * sz ≤ cs.length) (hlen : (n + k) * (by_ + 1) ≤ 2 ^ 47) :
    OpT P X E Th (.call { callee := .builtin .append, args := #[x, y], argTypes := #[t, t] }) (.own i (g + 1) sz 0 (n + k) (n + k)) (Th.set i ⟨g + 1, some (e, (cs.drop (off * sz)).take (n * sz) ++ ds)⟩) (.all i) := by
  refine ⟨⟨nocall (by simp), by simp [Op.operands, Call.operands, o1, o2]⟩, fun T G p hr => ?_⟩
  rw [Nat.blt_eq] at h0
  have hv := hr.ev hx o1
  obtain ⟨xb, xc, us, hw, hus, hds, hul⟩ := src_cells hr hs (hr.ev hy o2)
  have hil : i < Th.length := (List.getElem?_eq_some_iff.1 hi).1
  have hip : i < p.length := by rw [hr.hr.len]; exact hil
  rcases own_inv hr hv hi with ⟨b0, vs, h1, h2, h3, h4⟩ | ⟨h1, rfl, rfl, rfl, h2⟩
  · have hbl := getElem?_lt h3
    have hc : sliceCells G sz (.slice (some ⟨b0, off * sz, some (sz + 1)⟩) n cap) = some ((vs.drop (off * sz)).take (n * sz)) := by
      simp only [sliceCells, cellsA, h3]
      rw [if_pos (by rw [← h4.length]; exact hle)]
    have hnew := ((h4.drop (off * sz)).take (n * sz)).append hds
    have hk : ∀ c, p[i]? ≠ some (g, some (some c)) → (G.setIfInBounds b0 none)[c]? = G[c]? := fun c hc => set_ne (fun e => hc (by rw [e]; exact h2))
    obtain ⟨k1, k2⟩ := hr.hr.move hr.d hi (G1 := G.setIfInBounds b0 none) (by simp) hk hnew
    refine ⟨.slice (some ⟨G.size, 0, some (sz + 1)⟩) (n + k) (n + k), _, _, ?_, StR.move hr.hr h2 (by simp) (fun c hc => set_ne (fun e => hc (by rw [e]))) (fun c hc => by cases hc; exact set_get hbl) k2, k1, .own ⟨g + 1, _, List.getElem?_set_self hip, Nat.le_refl _⟩ (fun c hc => ?_) (fun hc => ?_) trivial⟩
    · simp only [stepOp, List.map_cons, List.map_nil, h1, hw, appendA, hE.el, hT.sz, hB.bt, hB.ze]
      rw [if_pos trivial, if_pos ⟨h0, hz, hlen⟩]
      rw [hw] at hus
      simp only [hc, hus, h3]
      simp
    · rw [List.getElem?_set_self hip] at hc; cases hc; simp
    · rw [List.getElem?_set_self hip] at hc; cases hc
  · simp only [Nat.zero_add] at hlen ⊢
    have e0 : ((([] : List TV).drop (off * sz)).take (0 * sz)) ++ ds = ds := by simp
    rw [e0]
    by_cases hk0 : k = 0
    · subst hk0
      have hds0 : ds = [] := by
        have := hds.length; rw [hul] at this; simp at this
        exact List.eq_nil_of_length_eq_zero (by simpa using this)
      subst hds0
      obtain ⟨k1, k2⟩ := hr.hr.bump hi
      refine ⟨.slice none 0 0, G, _, ?_, StR.bump hr.hr h2 k2, k1, .own ⟨g + 1, _, List.getElem?_set_self hip, Nat.le_refl _⟩ (fun c hc => ?_) (fun hc => ⟨rfl, rfl, rfl⟩) trivial⟩
      · simp only [stepOp, List.map_cons, List.map_nil, h1, hw, appendA, hE.el, hT.sz, hB.bt, hB.ze]
        rw [if_pos trivial, if_pos ⟨h0, hz, by simpa using hlen⟩]
        rw [hw] at hus
        simp only [hus]
        simp [sliceCells]
      · rw [List.getElem?_set_self hip] at hc; cases hc
    · have hk : ∀ c, p[i]? ≠ some (g, some (some c)) → G[c]? = G[c]? := fun c hc => rfl
      obtain ⟨k1, k2⟩ := hr.hr.move hr.d hi (G1 := G) rfl hk hds
      refine ⟨.slice (some ⟨G.size, 0, some (sz + 1)⟩) k k, _, _, ?_, StR.move hr.hr h2 rfl (fun c hc => rfl) (fun c hc => by cases hc) k2, k1, .own ⟨g + 1, _, List.getElem?_set_self hip, Nat.le_refl _⟩ (fun c hc => ?_) (fun hc => ?_) trivial⟩
      · simp only [stepOp, List.map_cons, List.map_nil, h1, hw, appendA, hE.el, hT.sz, hB.bt, hB.ze]
        rw [if_pos trivial, if_pos ⟨h0, hz, by simpa using hlen⟩]
        rw [hw] at hus
        simp only [hus]
        simp [sliceCells, hk0]
      · rw [List.getElem?_set_self hip] at hc; cases hc; simp
      · rw [List.getElem?_set_self hip] at hc; cases hc
def vsT (E : TEnv) : List Operand → Option (List Value)
  | [] => some []
  | o :: l => match evTV E o, vsT E l with
    | some (.v x), some r => some (x :: r)
    | _, _ => none
theorem vsT_ev {T : Array Value} {G : Heap} {p : Pl} (hr : Rl X E Th T G p) : ∀ {l : List Operand} {r : List Value}, vsT E l = some r → (l.all (okOpd P)) = true → l.map (evT T) = r
  | [], r, h, _ => by simp [vsT] at h; subst h; rfl
  | o :: l, r, h, ok => by
    simp only [vsT] at h
    split at h
    · rename_i x r' h1 h2
      cases h
      simp only [List.all_cons, Bool.and_eq_true] at ok
      rw [List.map_cons, (hr.ev h1 ok.1).flat_eq, vsT_ev hr h2 ok.2]
    · cases h
theorem opt_max {args : Array Operand} {ts : Array TypeId} {l : List Value} {v : Value} (hx : vsT E args.toList = some l) (ok : (args.toList.all (okOpd P)) = true) (hf : l.all flat1 = true) (h : pureV P (Builtin.max_ ts 0 l.toArray) = some v) (hv : flat1 v = true) : OpT P X E Th (.call { callee := .builtin .max, args := args, argTypes := ts }) (.v v) Th .no :=
  opt_quiet (nocall (by simp)) (by simpa [Op.operands, Call.operands] using ok) fun T G p hr => ⟨v, by simp only [stepOp, vsT_ev hr hx ok, hf, if_true, h, Option.map_some], .flat hv⟩
inductive BaseT (Th : List Root) : TV → Prop
  | v {x : Value} : BaseT Th (.v x)
  | fz {t : Bool} {sz n : Nat} {cs : List TV} : BaseT Th (.fz t sz n cs)
  | fp {t : Bool} {cs : List TV} {off : Nat} : BaseT Th (.fp t cs off)
  | own {i g sz off n cap : Nat} {d : TypeId × List TV} : Th[i]? = some ⟨g, some d⟩ → BaseT Th (.own i g sz off n cap)
  | pt {i g off : Nat} {e : TypeId} {c : TV} {cs : List TV} : Th[i]? = some ⟨g, some (e, c :: cs)⟩ → BaseT Th (.pt i g off)
theorem base_of {T : Array Value} {G : Heap} {p : Pl} (hr : Rl X E Th T G p) {x : TV} {w : Value} (hb : BaseT Th x) (h : VR G X.D p x w) : isBase w = true := by
  cases hb with
  | v =>
    cases h with
    | flat hf => cases w <;> first | rfl | (simp [flat1] at hf; done) | exact hf
  | fz => rcases fz_inv h with ⟨rfl, _⟩ | ⟨a, cap, vs, rfl, _⟩ <;> rfl
  | fp => obtain ⟨b, o, vs, rfl, _⟩ := fp_inv h; rfl
  | own hi => rcases own_inv hr h hi with ⟨b, vs, rfl, _⟩ | ⟨rfl, _⟩ <;> rfl
  | pt hi => obtain ⟨b, vs, rfl, _⟩ := pt_inv hr h hi (by simp); rfl
theorem opt_makeFunc {f : FuncId} {first captured : Array Operand} {a b : List TV} (ha : evL E first.toList = some a) (hb : evL E captured.toList = some b) (ok1 : (first.toList.all (okOpd P)) = true) (ok2 : (captured.toList.all (okOpd P)) = true) (hx : ∀ x ∈ a ++ b, BaseT Th x) : OpT P X E Th (.makeFunc (.func f) first captured) (.fn f a b) Th .no :=
  opt_quiet (fun _ => .inl (by simp)) (by
    simp only [Op.operands, List.all_eq_true] at ok1 ok2 ⊢
    intro x hx
    simp only [Array.mem_toList_iff, Array.mem_append, Array.append_assoc] at hx
    rcases hx with hx | hx
    · exact ok1 x (by simpa using hx)
    · exact ok2 x (by simpa using hx)) fun T G p hr => by
    have h1 := hr.evs ha ok1
    have h2 := hr.evs hb ok2
    have hall : ((first ++ captured).toList.all fun x => isBase (evT T x)) = true := by
      have h3 := h1.append h2
      rw [← List.map_append] at h3
      simp only [List.all_eq_true, Array.toList_append]
      intro o ho
      obtain ⟨i, hi⟩ := List.mem_iff_getElem?.1 ho
      have hi' : ((first.toList ++ captured.toList).map (evT T))[i]? = some (evT T o) := by rw [List.getElem?_map, hi]; rfl
      obtain ⟨c, k1, k2⟩ := h3.get' hi'
      exact base_of hr (hx c (List.mem_of_getElem? k1)) k2
    refine ⟨.func (.func f) ⟨first.toList.map (evT T)⟩ ⟨captured.toList.map (evT T)⟩, ?_, .fn h1 h2⟩
    simp only [stepOp, hall, if_true]
    congr 4
    · rw [← Array.toList_inj]; simp
    · rw [← Array.toList_inj]; simp
end
end Go.Ab
namespace Go.Ab

mutual
inductive Dr (Th : List Root) (t : Bool) : TV → TV → Prop
  | cl {x : TV} : Cl x → Dr Th t x x
  | nilf {u : Bool} {sz : Nat} : Dr Th t (.v (.slice none 0 0)) (.fz u sz 0 [])
  | tag {u : Bool} {sz n : Nat} {cs : List TV} : t = true → (∀ c ∈ cs, Cl c) → Dr Th t (.fz u sz n cs) (.fz u sz n cs)
  | tagp {u : Bool} {off : Nat} {cs : List TV} : t = true → (∀ c ∈ cs, Cl c) → Dr Th t (.fp u cs off) (.fp u cs off)
  | agg {cs cs' : List TV} : Drs Th t cs cs' → Dr Th t (.agg cs) (.agg cs')
  | tup {cs cs' : List TV} : Drs Th t cs cs' → Dr Th t (.tup cs) (.tup cs')
  | own {i g sz off n cap : Nat} {e : TypeId} {cs cs' : List TV} : Th[i]? = some ⟨g, some (e, cs)⟩ → off * sz + n * sz ≤ cs.length → n ≤ cap → n < 2 ^ 62 → 0 < sz → Drs Th t ((cs.drop (off * sz)).take (n * sz)) cs' → Dr Th t (.own i g sz off n cap) (.fz t sz n cs')
  | pt {i g off : Nat} {e : TypeId} {cs cs' : List TV} : Th[i]? = some ⟨g, some (e, cs)⟩ → 0 < cs.length → Drs Th t cs cs' → Dr Th t (.pt i g off) (.fp t cs' off)
  | fn {f : FuncId} {a a' b b' : List TV} : Drs Th t a a' → Drs Th t b b' → Dr Th t (.fn f a b) (.fn f a' b')
inductive Drs (Th : List Root) (t : Bool) : List TV → List TV → Prop
  | nil : Drs Th t [] []
  | cons {x x' : TV} {l l' : List TV} : Dr Th t x x' → Drs Th t l l' → Drs Th t (x :: l) (x' :: l')
end
theorem Drs.len {Th : List Root} {t : Bool} : ∀ {l l' : List TV}, Drs Th t l l' → l.length = l'.length
  | _, _, .nil => rfl
  | _, _, .cons _ b => by simp [Drs.len b]
theorem Drs.cl {Th : List Root} {t : Bool} : ∀ {l : List TV}, (∀ c ∈ l, Cl c) → Drs Th t l l
  | [], _ => .nil
  | c :: l, h => .cons (.cl (h c (by simp))) (Drs.cl fun d hd => h d (by simp [hd]))
theorem vr_fp0 {G : Heap} {D : Nat → Prop} {p : Pl} {t : Bool} {cs : List TV} {off b : Nat} {vs : List Value} (h1 : cellsA G ⟨b, 0, none⟩ cs.length = some vs) (h2 : VRs G D p cs vs) (h3 : Frz D p t b) : VR G D p (.fp t cs off) (.pointer (some ⟨b, off, none⟩)) := by
  have := VR.fp (off := off) h1 h2 h3
  rw [Nat.zero_add] at this
  exact this
section
variable {G : Heap} {D D' : Nat → Prop} {p : Pl} {Th : List Root} {t : Bool}
mutual
theorem dr_vr (hr : HR G D p Th) (h1 : ∀ b, ¬ D b → ¬ isOwn p b → ¬ D' b) (h2 : t = false → ∀ b, isOwn p b → ¬ D b → ¬ D' b) : ∀ {x x' : TV}, Dr Th t x x' → ∀ {w : Value}, VR G D p x w → VR G D' [] x' w
  | _, _, .cl c, w, h => h.conv (fun b hb ho => ⟨h1 b hb ho, by rintro ⟨i, g, hi⟩; simp at hi⟩) c
  | _, _, .nilf, w, h => by
    rw [h.flat_eq]; exact .fnil
  | _, _, .tag ht hc, w, h => by
    rcases fz_inv h with ⟨rfl, rfl, rfl⟩ | ⟨a, cap, vs, rfl, k2, k3, k4, k5, k6, k7, k8⟩
    · exact .fnil
    · exact .fz k2 (k3.conv (fun b hb ho => ⟨h1 b hb ho, by rintro ⟨i, g, hi⟩; simp at hi⟩) hc) k4 k5 k6 k7 ⟨fun e => h1 _ (k8.1 e) k8.2, by rintro ⟨i, g, hi⟩; simp at hi⟩
  | _, _, .tagp ht hc, w, h => by
    obtain ⟨b, o, vs, rfl, k2, k3, k4⟩ := fp_inv h
    exact .fp k2 (k3.conv (fun b hb ho => ⟨h1 b hb ho, by rintro ⟨i, g, hi⟩; simp at hi⟩) hc) ⟨fun e => h1 _ (k4.1 e) k4.2, by rintro ⟨i, g, hi⟩; simp at hi⟩
  | _, _, .agg a, w, h => by
    cases h with
    | agg h => exact .agg (drs_vr hr h1 h2 a h)
  | _, _, .tup a, w, h => by
    cases h with
    | tup h => exact .tup (drs_vr hr h1 h2 a h)
  | _, _, .own hi hle hc hn h0 hs, w, h => by
    rcases hr.get hi with ⟨b, vs, k1, k2, k3, k4⟩ | ⟨rfl, k1⟩
    · cases h with
      | own _ q _ _ =>
        rw [q b k1]
        have hcs := drs_vr hr h1 h2 hs ((k3.drop _).take _)
        refine .fz (a := ⟨b, _, _⟩) ?_ hcs hc (.inl rfl) hn h0 ⟨fun ht => h2 ht b ⟨_, _, k1⟩ k4, by rintro ⟨i, g, hi⟩; simp at hi⟩
        simp only [cellsA, k2]
        rw [if_pos (by rw [← k3.length]; exact hle)]
    · cases h with
      | own _ _ q _ =>
        obtain ⟨q1, rfl, q3⟩ := q k1
        rw [q1]
        have := hs.len
        simp at this
        have hnil := List.eq_nil_of_length_eq_zero this.symm
        subst hnil
        exact .fnil
  | _, _, .pt hi hc hs, w, h => by
    obtain ⟨b, vs, k1, k2, k3, k4⟩ := hr.get1 hi hc
    cases h with
    | pt _ q _ =>
      rw [q b k1]
      have hcs := drs_vr hr h1 h2 hs k3
      exact vr_fp0 (cells_all k2 hcs.length) hcs ⟨fun ht => h2 ht b ⟨_, _, k1⟩ k4, by rintro ⟨i, g, hi⟩; simp at hi⟩
  | _, _, .fn a b, w, h => by
    cases h with
    | fn ha hb => exact .fn (drs_vr hr h1 h2 a ha) (drs_vr hr h1 h2 b hb)
theorem drs_vr (hr : HR G D p Th) (h1 : ∀ b, ¬ D b → ¬ isOwn p b → ¬ D' b) (h2 : t = false → ∀ b, isOwn p b → ¬ D b → ¬ D' b) : ∀ {x x' : List TV}, Drs Th t x x' → ∀ {w : List Value}, VRs G D p x w → VRs G D' [] x' w
  | _, _, .nil, _, .nil => .nil
  | _, _, .cons a b, _, .cons k l => .cons (dr_vr hr h1 h2 a k) (drs_vr hr h1 h2 b l)
end
end

class Gl (P : Program) where
  tb : Option Blk
def Pu (P : Program) [Gl P] (f : FuncId) (args : List TV) (R : TV → Prop) : Prop :=
  ∀ (G : Heap) (D : Nat → Prop) (vs : List Value), (∀ b, D b → b < G.size) → GlOk (Gl.tb P) G D [] → VRs G D [] args vs → ∃ v G', (∃ n, callA P noPrim n f ⟨vs⟩ G = some (v, G')) ∧ Fr G G' ∧ ∃ r, VR G' D [] r v ∧ R r
def Im (P : Program) [Gl P] (f : FuncId) (args : List TV) (Th : List Root) (R : TV → List Root → EffD → Prop) : Prop :=
  ∀ (G : Heap) (D : Nat → Prop) (p : Pl) (vs : List Value), (∀ b, D b → b < G.size) → GlOk (Gl.tb P) G D p → HR G D p Th → VRs G D p args vs → ∃ v G', (∃ n, callA P noPrim n f ⟨vs⟩ G = some (v, G')) ∧ ∃ p' r Th' eff, StR eff.fn G p G' p' ∧ HR G' D p' Th' ∧ VR G' D p' r v ∧ R r Th' eff
theorem Pu.mono {P : Program} [Gl P] {f : FuncId} {args : List TV} {R R' : TV → Prop} (h : Pu P f args R) (hR : ∀ r, R r → R' r) : Pu P f args R' := fun G D vs h1 hg h2 =>
  let ⟨v, G', a, b, r, c, d⟩ := h G D vs h1 hg h2; ⟨v, G', a, b, r, c, hR r d⟩
theorem Im.mono {P : Program} [Gl P] {f : FuncId} {args : List TV} {Th : List Root} {R R' : TV → List Root → EffD → Prop} (h : Im P f args Th R) (hR : ∀ r Th' e, R r Th' e → R' r Th' e) : Im P f args Th R' := fun G D p vs h1 hg h2 h3 =>
  let ⟨v, G', a, p', r, Th', e, b, c, d, k⟩ := h G D p vs h1 hg h2 h3; ⟨v, G', a, p', r, Th', e, b, c, d, hR _ _ _ k⟩
def argET : Nat → List TV → TEnv
  | _, [] => []
  | k, v :: l => (k, v) :: argET (k + 1) l
theorem argET_lk : ∀ (l : List TV) (k j : Nat) (v : TV), lkT (argET k l) j = some v → k ≤ j ∧ l[j - k]? = some v
  | [], k, j, v, h => by simp [argET, lkT] at h
  | u :: l, k, j, v, h => by
    simp only [argET, lkT_cons] at h
    split at h
    · rename_i e; subst e; simp at h; subst h; simp
    · obtain ⟨h1, h2⟩ := argET_lk l (k + 1) j v h
      refine ⟨by omega, ?_⟩
      rw [show j - k = (j - (k + 1)) + 1 by omega]; simpa using h2
theorem frame_en {G : Heap} {D : Nat → Prop} {p : Pl} {fn : Func} {args : List TV} {vs : List Value} (h : VRs G D p args vs) : ∀ k x, lkT (argET 0 args) k = some x → ∃ w, (frameA fn ⟨vs⟩)[k]? = some w ∧ VR G D p x w := by
  intro k x hk
  obtain ⟨_, h4⟩ := argET_lk args 0 k x hk
  obtain ⟨w, h5, h6⟩ := h.get h4
  refine ⟨w, ?_, h6⟩
  have hlt := (List.getElem?_eq_some_iff.1 h5).1
  simp only [frameA]
  rw [Array.getElem?_append_left (by simpa using hlt)]
  simpa using h5
def FinP (P : Program) (X : Cx) (fn : Func) (R : TV → Prop) : TPost := fun e E Th => (∀ id, e ≠ .exit id) ∧ ∀ T G p, Rl X E Th T G p → ∃ v r, resultsA P fn T G = some v ∧ VR G X.D [] r v ∧ R r
def FinI (P : Program) (X : Cx) (fn : Func) (R : TV → List Root → Prop) : TPost := fun e E Th => (∀ id, e ≠ .exit id) ∧ ∀ T G p, Rl X E Th T G p → ∃ v r, resultsA P fn T G = some v ∧ VR G X.D p r v ∧ R r Th
theorem we_call {P : Program} {f : FuncId} {fn : Func} {c : Code} (hf : P.funcs[f]? = some fn) (hn : (fn.name == "runtime.NumGoroutine") = false) (hb : fn.body = some c) {vs : List Value} {G : Heap} {Q : AExit → Array Value → Heap → Prop} {R : Value → Heap → Prop}
    (h : We P noPrim .fn c (frameA fn ⟨vs⟩) G Q) (hQ : ∀ e T G', Q e T G' → (∀ id, e ≠ .exit id) ∧ ∃ v, resultsA P fn T G' = some v ∧ R v G') : ∃ v G', (∃ n, callA P noPrim n f ⟨vs⟩ G = some (v, G')) ∧ R v G' := by
  obtain ⟨n, e, T', G', h1, h2⟩ := h
  obtain ⟨h3, v, h4, h5⟩ := hQ _ _ _ h2
  have h1' : execA P (callA P noPrim n) (n + 1) .fn c (frameA fn ⟨vs⟩) G = some (e, T', G') := execA_mono (Le.refl _) n (n + 1) (by omega) .fn h1
  have hp : noPrim f ⟨vs⟩ G = none := rfl
  cases e with
  | exit id => exact absurd rfl (h3 id)
  | normal => exact ⟨v, G', ⟨n + 1, by simp only [callA, hp, hf, hn, hb, Bool.false_eq_true, if_false, h1', h4, Option.map_some]⟩, h5⟩
  | ret => exact ⟨v, G', ⟨n + 1, by simp only [callA, hp, hf, hn, hb, Bool.false_eq_true, if_false, h1', h4, Option.map_some]⟩, h5⟩
theorem frame_size {fn : Func} {vs : List Value} (hl : vs.length ≤ fn.ntmps) : (frameA fn ⟨vs⟩).size = fn.ntmps := by simp [frameA]; omega
theorem pu_fn {P : Program} [Gl P] {f : FuncId} {fn : Func} {c : Code} {args : List TV} {R : TV → Prop} (hf : P.funcs[f]? = some fn) (hn : (fn.name == "runtime.NumGoroutine") = false) (hb : fn.body = some c) (hl : Nat.ble args.length fn.ntmps = true)
    (h : ∀ X : Cx, X.p = [] → X.tb = Gl.tb P → WCt P X .fn c fn.ntmps (argET 0 args) [] (FinP P X fn R)) : Pu P f args R := fun G D vs hD hg hv => by
  rw [Nat.ble_eq] at hl
  obtain ⟨v, G', h1, h2⟩ := we_call (R := fun v G' => Fr G G' ∧ ∃ r, VR G' D [] r v ∧ R r) hf hn hb (h ⟨G, [], D, .no, Gl.tb P⟩ rfl rfl (frameA fn ⟨vs⟩) G [] (frame_size (by rw [← hv.length]; exact hl)) ⟨StR.refl _ _, by rintro b ⟨i, g, hi⟩; simp at hi, HR.nil _ _, frame_en hv, hD, hg⟩) (by
    rintro e T G' ⟨_, E, Th, p, hr, h3, h4⟩
    obtain ⟨v, r, h5, h6, h7⟩ := h4 T G' p hr
    refine ⟨h3, v, h5, ⟨hr.st.le.size, fun b hb => (hr.st.le.keep b hb (by rintro ⟨i, g, hi⟩; simp at hi)).1⟩, r, h6, h7⟩)
  exact ⟨v, G', h1, h2⟩
theorem im_fn {P : Program} [Gl P] {f : FuncId} {fn : Func} {c : Code} {args : List TV} {Th : List Root} {R : TV → List Root → Prop} (F : EffD) (hf : P.funcs[f]? = some fn) (hn : (fn.name == "runtime.NumGoroutine") = false) (hb : fn.body = some c) (hl : Nat.ble args.length fn.ntmps = true)
    (h : ∀ X : Cx, X.p.length = Th.length → X.f = F → X.tb = Gl.tb P → WCt P X .fn c fn.ntmps (argET 0 args) Th (FinI P X fn R)) : Im P f args Th (fun r Th' e => R r Th' ∧ e = F) := fun G D p vs hD hg hr0 hv => by
  rw [Nat.ble_eq] at hl
  obtain ⟨v, G', h1, h2⟩ := we_call (R := fun v G' => ∃ p' r Th' eff, StR (EffD.fn eff) G p G' p' ∧ HR G' D p' Th' ∧ VR G' D p' r v ∧ R r Th' ∧ eff = F) hf hn hb (h ⟨G, p, D, F, Gl.tb P⟩ hr0.len rfl rfl (frameA fn ⟨vs⟩) G p (frame_size (by rw [← hv.length]; exact hl)) ⟨(StR.refl _ _).weak fun i o h => by simp [noEff] at h, fun b ⟨i, g, hi⟩ => hr0.lt hi, hr0, frame_en hv, hD, hg⟩) (by
    rintro e T G' ⟨_, E, Th, p', hr, h3, h4⟩
    obtain ⟨v, r, h5, h6, h7⟩ := h4 T G' p' hr
    exact ⟨h3, v, h5, p', r, Th, F, hr.st, hr.hr, h6, h7, rfl⟩)
  exact ⟨v, G', h1, h2⟩
section
variable {P : Program} {X : Cx} {N : Nat} {E : TEnv} {Th Th' : List Root} {ops : Array Oper} {rest : List Oper}
theorem res_one {fn : Func} {k : Tmp} {x : TV} (hr : fn.results = #[.tmp k]) (hv : lkT E k = some x) {T : Array Value} {G : Heap} {p : Pl} (h : Rl X E Th T G p) : ∃ w, resultsA P fn T G = some w ∧ VR G X.D p x w := by
  obtain ⟨w, h1, h2⟩ := h.en k x hv
  exact ⟨w, by simp [resultsA, hr, Array.getD_eq_getD_getElem?, h1], h2⟩
theorem dr_end {x r : TV} {w : Value} {T : Array Value} {G : Heap} {p : Pl} (h : Rl X E Th T G p) (hv : VR G X.D p x w) (hd : Dr Th false x r) : VR G X.D [] r w :=
  dr_vr h.hr (fun _ h _ => h) (fun _ _ _ h => h) hd hv
theorem fin_1 {fn : Func} {k : Tmp} {x r : TV} {R : TV → Prop} {e : AExit} (he : ∀ id, e ≠ .exit id) (hr : fn.results = #[.tmp k]) (hv : lkT E k = some x) (hd : Dr Th false x r) (h : R r) : FinP P X fn R e E Th :=
  ⟨he, fun T G p hs => let ⟨w, h1, h2⟩ := res_one (P := P) hr hv hs; ⟨w, r, h1, dr_end hs h2 hd, h⟩⟩
theorem fin_1c {fn : Func} {k : Tmp} {x : TV} {R : TV → Prop} {e : AExit} (he : ∀ id, e ≠ .exit id) (hr : fn.results = #[.tmp k]) (hv : lkT E k = some x) (hc : Cl x) (h : R x) : FinP P X fn R e E Th := fin_1 he hr hv (.cl hc) h
theorem res_two {fn : Func} {k l : Tmp} {x y : TV} (hr : fn.results = #[.tmp k, .tmp l]) (hx : lkT E k = some x) (hy : lkT E l = some y) (nx : noTupB x = true) (ny : noTupB y = true) {T : Array Value} {G : Heap} {p : Pl} (h : Rl X E Th T G p) : ∃ w, resultsA P fn T G = some w ∧ VR G X.D p (.tup [x, y]) w := by
  obtain ⟨w, h1, h2⟩ := h.en k x hx
  obtain ⟨u, h3, h4⟩ := h.en l y hy
  exact ⟨.tuple #[w, u], by simp [resultsA, hr, Array.getD_eq_getD_getElem?, h1, h3, h2.noTup (noTupB_ok nx), h4.noTup (noTupB_ok ny)], .tup (.cons h2 (.cons h4 .nil))⟩
theorem fin_2 {fn : Func} {k l : Tmp} {x y r : TV} {R : TV → Prop} {e : AExit} (he : ∀ id, e ≠ .exit id) (hr : fn.results = #[.tmp k, .tmp l]) (hx : lkT E k = some x) (hy : lkT E l = some y) (nx : noTupB x = true) (ny : noTupB y = true) (hd : Dr Th false (.tup [x, y]) r) (h : R r) : FinP P X fn R e E Th :=
  ⟨he, fun T G p hs => let ⟨w, h1, h2⟩ := res_two (P := P) hr hx hy nx ny hs; ⟨w, r, h1, dr_end hs h2 hd, h⟩⟩
theorem fini_1 {fn : Func} {k : Tmp} {x : TV} {R : TV → List Root → Prop} {e : AExit} (he : ∀ id, e ≠ .exit id) (hr : fn.results = #[.tmp k]) (hv : lkT E k = some x) (h : R x Th) : FinI P X fn R e E Th :=
  ⟨he, fun T G p hs => let ⟨w, h1, h2⟩ := res_one (P := P) hr hv hs; ⟨w, x, h1, h2, h⟩⟩
theorem fini_0 {fn : Func} {R : TV → List Root → Prop} {e : AExit} (he : ∀ id, e ≠ .exit id) (hr : fn.results = #[]) (h : R (.tup []) Th) : FinI P X fn R e E Th :=
  ⟨he, fun T G p hs => ⟨.tuple #[], .tup [], by simp [resultsA, hr], .tup .nil, h⟩⟩
theorem load_pt {t : TypeId} {i g off n : Nat} {e : TypeId} {cs : List TV} {w : Value} {T : Array Value} {G : Heap} {p : Pl} [hT : TyI P t true n] (h : Rl X E Th T G p) (hv : VR G X.D p (.pt i g off) w) (hi : Th[i]? = some ⟨g, some (e, cs)⟩) (hl : off + n ≤ cs.length) (hn : 0 < cs.length) : ∃ a v, w = .pointer (some a) ∧ loadA P G t a = some v ∧ VR G X.D p (.agg ((cs.drop off).take n)) v := by
  obtain ⟨b, vs, rfl, h2, h3, h4⟩ := pt_inv h hv hi hn
  exact ⟨_, _, rfl, load_agg (sp := none) hT.ag hT.sz h3 (by simp only; rw [← h4.length]; exact hl), .agg ((h4.drop off).take n)⟩
theorem finp_cell {fn : Func} {k : Tmp} {t : TypeId} {i g n : Nat} {e' : TypeId} {cs : List TV} {r : TV} {R : TV → Prop} {e : AExit} [hT : TyI P t true n] (he : ∀ id, e ≠ .exit id) (hr : fn.results = #[.cell k t]) (hv : lkT E k = some (.pt i g 0)) (hi : Th[i]? = some ⟨g, some (e', cs)⟩) (hl : cs.length = n) (h0 : Nat.blt 0 n = true) (hd : Dr Th false (.agg cs) r) (h : R r) : FinP P X fn R e E Th :=
  ⟨he, fun T G p hs => by
    rw [Nat.blt_eq] at h0
    obtain ⟨w, h1, h2⟩ := hs.en k _ hv
    obtain ⟨a, v, rfl, h3, h4⟩ := load_pt (P := P) (hT := hT) hs h2 hi (by omega) (by omega)
    rw [List.drop_zero, List.take_of_length_le (by omega)] at h4
    exact ⟨v, r, by simp [resultsA, hr, Array.getD_eq_getD_getElem?, h1, h3], dr_end hs h4 hd, h⟩⟩

def CallT (P : Program) (E : TEnv) (op : Op) (g : FuncId) (as : List TV) : Prop :=
  ∃ f args ts a b xs, op = .call { callee := .value f, args := args, argTypes := ts } ∧ op.operands.toList.all (okOpd P) = true ∧ evTV E f = some (.fn g a b) ∧ evL E args.toList = some xs ∧ as = (a ++ xs) ++ b
theorem CallT.run {op : Op} {g : FuncId} {as : List TV} (h : CallT P E op g as) {o : Oper} (ho : o.op = op) {T : Array Value} {G : Heap} {p : Pl} (hr : Rl X E Th T G p) : ∃ vs, VRs G X.D p as vs ∧ ∀ c : CallF, opA P c T o G = c g ⟨vs⟩ G := by
  obtain ⟨f, args, ts, a, b, xs, h1, h2, h3, h4, rfl⟩ := h
  have hok : okOpd P f = true ∧ args.toList.all (okOpd P) = true := by
    rw [h1] at h2
    simp only [Op.operands, Call.operands] at h2
    simp at h2
    simpa [List.all_eq_true] using h2
  have e1 := hr.ev h3 hok.1
  have e2 := hr.evs h4 hok.2
  cases hw : evT T f with
  | func q x1 y1 =>
    rw [hw] at e1
    cases e1 with
    | @fn _ _ _ va vb k1 k2 =>
      refine ⟨(va ++ args.toList.map (evT T)) ++ vb, (k1.append e2).append k2, fun c => ?_⟩
      unfold opA
      rw [ho, h2]
      simp only [if_true, h1, hw]
      congr 1
      rw [← Array.toList_inj]; simp
  | _ => rw [hw] at e1; cases e1
theorem pu_run [Gl P] (hX : X.tb = Gl.tb P) {op : Op} {g : FuncId} {as as' : List TV} {R : TV → Prop} (hc : CallT P E op g as) (hd : Drs Th true as as') (hp : Pu P g as' R) (hcl : ∀ r, R r → Cl r) {o : Oper} (ho : o.op = op) (T : Array Value) (G : Heap) (p : Pl) (hr : Rl X E Th T G p) :
    ∃ v G' p' x Th' n, opA P (callA P noPrim n) T o G = some (v, G') ∧ StR (EffD.no).fn G p G' p' ∧ HR G' X.D p' Th' ∧ VR G' X.D p' x v ∧ (R x ∧ Th' = Th) := by
  obtain ⟨vs, h1, h2⟩ := hc.run ho hr
  have hlt : ∀ b, isOwn p b → b < G.size := fun b ⟨i, g, hi⟩ => hr.hr.lt hi
  have h3 : VRs G (fun b => X.D b ∨ isOwn p b) [] as' vs := drs_vr hr.hr (fun b hb ho hh => hh.elim hb ho) (fun e => by cases e) hd h1
  obtain ⟨v, G', ⟨n, hn⟩, hf, r, h4, h5⟩ := hp G _ vs (fun b hb => hb.elim (hr.d b) (hlt b)) (fun B hB => by
    obtain ⟨q1, q2, q3⟩ := hr.gl B (hX.trans hB)
    exact ⟨q1, by rintro ⟨i, g, hi⟩; simp at hi, fun h => h.elim q3 q2⟩) h3
  have hl : LeP G p G' p := ⟨hf.size, fun b hb ho => ⟨hf.same b hb, ho⟩, fun i g o hi => ⟨g, o, hi, .inl ⟨rfl, .inl rfl⟩⟩⟩
  have hs : ∀ b, isOwn p b → G'[b]? = G[b]? := fun b hb => hf.same b (hlt b hb)
  refine ⟨v, G', p, r, Th, n, by rw [h2]; exact hn, StR.same hl hs, hr.hr.mono hl hs, ?_, h5, rfl⟩
  exact h4.conv (fun b hb _ => ⟨fun hd => hb (.inl hd), fun ho => hb (.inr ho)⟩) (hcl r h5)
theorem wot_pu [Gl P] (hX : X.tb = Gl.tb P) {o : Oper} {op : Op} {g : FuncId} {as as' : List TV} {R : TV → Prop} {K : TEnv → List Root → Prop} (ho : o.op = op) (hc : CallT P E op g as) (hd : Drs Th true as as') (hp : Pu P g as' R) (hcl : ∀ r, R r → Cl r) (hg : o.guard = none) (hdst : okDst o.dst N = true)
    (h : ∀ r, R r → WOt P X ops rest N (putET o.dst r E) Th K) : WOt P X ops (o :: rest) N E Th K :=
  wot_step (R := fun x Th1 => R x ∧ Th1 = Th) (fun T _ _ _ => wanted_none hg T) (EffOk.no X) (pu_run hX hc hd hp hcl ho) hdst (by rintro r _ ⟨hr, rfl⟩; exact h r hr)
theorem wot_pu1 [Gl P] (hX : X.tb = Gl.tb P) {o : Oper} {op : Op} {g : FuncId} {as as' : List TV} {r : TV} {K : TEnv → List Root → Prop} (ho : o.op = op) (hc : CallT P E op g as) (hd : Drs Th true as as') (hp : Pu P g as' (Eq r)) (hcl : Cl r) (hg : o.guard = none) (hdst : okDst o.dst N = true)
    (h : WOt P X ops rest N (putET o.dst r E) Th K) : WOt P X ops (o :: rest) N E Th K :=
  wot_pu hX ho hc hd hp (by rintro _ rfl; exact hcl) hg hdst (by rintro _ rfl; exact h)
theorem wtt_pu [Gl P] (hX : X.tb = Gl.tb P) {o : Oper} {op : Op} {g : FuncId} {as as' : List TV} {R : TV → Prop} {K : TEnv → List Root → List Rec → Prop} (ho : o.op = op) (hc : CallT P E op g as) (hd : Drs Th true as as') (hp : Pu P g as' R) (hcl : ∀ r, R r → Cl r) (hg : o.guard = none) (hdst : okDst o.dst N = true)
    (h : ∀ r, R r → WTt P X ops rest N (putET o.dst r E) Th (fun E' Th1 tr => K E' Th1 (⟨E, Th, .no⟩ :: tr))) : WTt P X ops (o :: rest) N E Th K :=
  wtt_step (R := fun x Th1 => R x ∧ Th1 = Th) (fun T _ _ _ => wanted_none hg T) (EffOk.no X) (pu_run hX hc hd hp hcl ho) hdst (by rintro r _ ⟨hr, rfl⟩; exact h r hr)
theorem wtt_pu1 [Gl P] (hX : X.tb = Gl.tb P) {o : Oper} {op : Op} {g : FuncId} {as as' : List TV} {r : TV} {K : TEnv → List Root → List Rec → Prop} (ho : o.op = op) (hc : CallT P E op g as) (hd : Drs Th true as as') (hp : Pu P g as' (Eq r)) (hcl : Cl r) (hg : o.guard = none) (hdst : okDst o.dst N = true)
    (h : WTt P X ops rest N (putET o.dst r E) Th (fun E' Th1 tr => K E' Th1 (⟨E, Th, .no⟩ :: tr))) : WTt P X ops (o :: rest) N E Th K :=
  wtt_pu hX ho hc hd hp (by rintro _ rfl; exact hcl) hg hdst (by rintro _ rfl; exact h)
theorem im_run [Gl P] (hX : X.tb = Gl.tb P) {op : Op} {g : FuncId} {as : List TV} {R : TV → List Root → EffD → Prop} {F : EffD} (hc : CallT P E op g as) (hp : Im P g as Th R) (hF : ∀ r Th' e, R r Th' e → e = F) {o : Oper} (ho : o.op = op) (T : Array Value) (G : Heap) (p : Pl) (hr : Rl X E Th T G p) :
    ∃ v G' p' x Th' n, opA P (callA P noPrim n) T o G = some (v, G') ∧ StR F.fn G p G' p' ∧ HR G' X.D p' Th' ∧ VR G' X.D p' x v ∧ R x Th' F := by
  obtain ⟨vs, h1, h2⟩ := hc.run ho hr
  obtain ⟨v, G', ⟨n, hn⟩, p', r, Th', e, h3, h4, h5, h6⟩ := hp G X.D p vs hr.d (hX ▸ hr.gl) hr.hr h1
  have := hF r Th' e h6
  subst this
  exact ⟨v, G', p', r, Th', n, by rw [h2]; exact hn, h3, h4, h5, h6⟩
theorem wot_im [Gl P] (hX : X.tb = Gl.tb P) {o : Oper} {op : Op} {g : FuncId} {as : List TV} {R : TV → List Root → EffD → Prop} {F : EffD} {K : TEnv → List Root → Prop} (ho : o.op = op) (hc : CallT P E op g as) (hp : Im P g as Th R) (hF : ∀ r Th' e, R r Th' e → e = F) (hf : EffOk X F) (hg : o.guard = none) (hdst : okDst o.dst N = true)
    (h : ∀ r Th', R r Th' F → WOt P X ops rest N (putET o.dst r E) Th' K) : WOt P X ops (o :: rest) N E Th K :=
  wot_step (R := fun x Th1 => R x Th1 F) (fun T _ _ _ => wanted_none hg T) hf (im_run hX hc hp hF ho) hdst h
theorem wtt_im [Gl P] (hX : X.tb = Gl.tb P) {o : Oper} {op : Op} {g : FuncId} {as : List TV} {R : TV → List Root → EffD → Prop} {F : EffD} {K : TEnv → List Root → List Rec → Prop} (ho : o.op = op) (hc : CallT P E op g as) (hp : Im P g as Th R) (hF : ∀ r Th' e, R r Th' e → e = F) (hf : EffOk X F) (hg : o.guard = none) (hdst : okDst o.dst N = true)
    (h : ∀ r Th', R r Th' F → WTt P X ops rest N (putET o.dst r E) Th' (fun E' Th1 tr => K E' Th1 (⟨E, Th, F⟩ :: tr))) : WTt P X ops (o :: rest) N E Th K :=
  wtt_step (R := fun x Th1 => R x Th1 F) (fun T _ _ _ => wanted_none hg T) hf (im_run hX hc hp hF ho) hdst h
theorem call_bin {f : FuncId} {args : Array Operand} {ts : Array TypeId} {xs : List TV} (hok : (Op.call { callee := .value (.func f), args := args, argTypes := ts }).operands.toList.all (okOpd P) = true) (h : evL E args.toList = some xs) : CallT P E (.call { callee := .value (.func f), args := args, argTypes := ts }) f xs :=
  ⟨_, _, _, [], [], xs, rfl, hok, rfl, h, by simp⟩
theorem wct_ghost {mk : MK} {c : Code} {Q : TPost} {E' : TEnv} (hg : ∀ T G p, Rl X E Th T G p → ∃ p', Rl X E' Th' T G p') (h : WCt P X mk c N E' Th' Q) : WCt P X mk c N E Th Q := fun T G p h1 h2 => let ⟨p', h3⟩ := hg T G p h2; h T G p' h1 h3
theorem wot_ghost {l : List Oper} {K : TEnv → List Root → Prop} {E' : TEnv} (hg : ∀ T G p, Rl X E Th T G p → ∃ p', Rl X E' Th' T G p') (h : WOt P X ops l N E' Th' K) : WOt P X ops l N E Th K := ⟨fun T G p h1 h2 => by
  obtain ⟨p', h3⟩ := hg T G p h2
  exact h.go T G p' h1 h3⟩
theorem g_nil {d : Nat} (sz : Nat) (e : TypeId) (hd : lkT E d = some (.v (.slice none 0 0))) : ∀ T G p, Rl X E Th T G p → ∃ p', Rl X ((d, .own Th.length 0 sz 0 0 0) :: E) (Th ++ [⟨0, some (e, [])⟩]) T G p' := fun T G p hr => by
  have hs := StR.pushNil G p
  refine ⟨_, hr.st.trans hs fun i o _ h => by simp [noEff] at h, hr.ol, hr.hr.pushNil e, fun k x hk => ?_, hr.dd, hr.gl.le hs.le⟩
  rw [lkT_cons] at hk
  split at hk
  · rename_i e1; subst e1; cases hk
    obtain ⟨w, h1, h2⟩ := hr.en _ _ hd
    rw [h2.flat_eq] at h1
    refine ⟨_, h1, .own ⟨0, some none, by rw [← hr.hr.len]; simp, Nat.le_refl _⟩ (fun b hb => ?_) (fun _ => ⟨rfl, rfl, rfl⟩) trivial⟩
    rw [← hr.hr.len] at hb; simp at hb
  · obtain ⟨w, h1, h2⟩ := hr.en k x hk
    exact ⟨w, h1, h2.mono hs.le⟩
inductive Fz (i g : Nat) (cs : List TV) : TV → TV → Prop
  | same (x : TV) : Fz i g cs x x
  | own {sz off n cap : Nat} : off * sz + n * sz ≤ cs.length → n ≤ cap → n < 2 ^ 62 → 0 < sz → Fz i g cs (.own i g sz off n cap) (.fz false sz n ((cs.drop (off * sz)).take (n * sz)))
  | pt {off : Nat} : 0 < cs.length → Fz i g cs (.pt i g off) (.fp false cs off)
theorem g_freeze {d i g : Nat} {e : TypeId} {cs : List TV} {x x' : TV} (hd : lkT E d = some x) (hX : Nat.ble X.p.length i = true) (hi : Th[i]? = some ⟨g, some (e, cs)⟩) (hf : Fz i g cs x x') : ∀ T G p, Rl X E Th T G p → ∃ p', Rl X ((d, x') :: E) (Th.set i ⟨g, none⟩) T G p' := fun T G p hr => by
  rw [Nat.ble_eq] at hX
  obtain ⟨k1, k2⟩ := hr.hr.drop hi
  refine ⟨_, hr.st.drop hr.ol hX k2, hr.ol, k1, fun k y hk => ?_, hr.dd, hr.gl.le k2⟩
  rw [lkT_cons] at hk
  split at hk
  · rename_i e1; subst e1; cases hk
    obtain ⟨w, h1, h2⟩ := hr.en _ _ hd
    refine ⟨w, h1, ?_⟩
    have hno : ∀ {b}, p[i]? = some (g, some (some b)) → ¬ isOwn (p.set i (g, none)) b := by
      rintro b hb ⟨j, g', hj⟩
      rw [List.getElem?_set] at hj
      split at hj
      · split at hj <;> cases hj
      · rename_i hij; exact hij (hr.hr.inj i j g g' b hb hj)
    cases hf with
    | same => exact h2.mono k2
    | own hle hc hn h0 =>
      rcases hr.hr.get hi with ⟨b, vs, q1, q2, q3, q4⟩ | ⟨rfl, q1⟩
      · cases h2 with
        | own _ r _ _ =>
          rw [r b q1]
          refine .fz (a := ⟨b, _, _⟩) ?_ (((q3.drop _).take _).mono k2) hc (.inl rfl) hn h0 ⟨fun _ => q4, hno q1⟩
          simp only [cellsA, q2]
          rw [if_pos (by rw [← q3.length]; exact hle)]
      · cases h2 with
        | own _ _ r _ =>
          obtain ⟨r1, rfl, r3⟩ := r q1
          rw [r1]
          rw [List.drop_nil, List.take_nil]
          exact .fnil
    | pt hc =>
      obtain ⟨b, vs, q1, q2, q3, q4⟩ := hr.hr.get1 hi hc
      cases h2 with
      | pt _ r _ =>
        rw [r b q1]
        exact vr_fp0 (cells_all q2 q3.length) (q3.mono k2) ⟨fun _ => q4, hno q1⟩
  · obtain ⟨w, h1, h2⟩ := hr.en k y hk
    exact ⟨w, h1, h2.mono k2⟩
theorem opt_slice_arr {t e : TypeId} {x : Operand} {lo hi : Option Operand} {ag : Bool} {i g off m sz l h : Nat} {e' : TypeId} {cs : List TV} [hA : ArI P t m e] [hT : TyI P e ag sz] (hx : evTV E x = some (.fp false cs off)) (o1 : okOpd P x = true) (hlo : slEv E P lo l 0) (hhi : slEv E P hi h m) (hl : l ≤ h) (hh : h ≤ m) (hb : off + m * sz ≤ cs.length) (h0 : 0 < sz) (hm : m < 2 ^ 62) (hne : l < m) :
    OpT P X E Th (.slice t x lo hi none) (.fz false sz (h - l) ((cs.drop (off + l * sz)).take ((h - l) * sz))) Th .no := by
  refine opt_quiet (fun _ => .inl (by simp)) ?_ fun T G p hr => ?_
  · have h1 := slEv_ok hlo
    have h2 := slEv_ok hhi
    cases lo <;> cases hi <;> simp_all [Op.operands]
  obtain ⟨lo1, e1, e2⟩ := slEv_int hlo hr
  obtain ⟨hi1, e3, e4⟩ := slEv_int hhi hr
  have hm0 : intOf? (Option.map (evT T) none) = some none := rfl
  have e2' : lo1.getD 0 = (l : Int) := by simpa using e2
  obtain ⟨b, o, vs, h1, h2, h3, h4⟩ := fp_inv (hr.ev hx o1)
  have hle : (l + (h - l)) * sz ≤ m * sz := Nat.mul_le_mul_right _ (by omega)
  rw [Nat.add_mul] at hle
  refine ⟨.slice (some ⟨b, o + off + l * sz, some 0⟩) (h - l) (m - l), ?_, .fz (vs := (vs.drop (off + l * sz)).take ((h - l) * sz)) ?_ ((h3.drop _).take _) (by omega) (.inr rfl) (by omega) h0 h4⟩
  · simp only [stepOp, h1, sliceA, e1, e3, hm0, hA.ar, hT.sz, e2', e4, Option.getD_none]
    rw [if_pos ⟨by omega, by omega, by omega, by omega, by omega, by omega, by simp⟩]
    have : (m : Int).toNat ≠ (l : Int).toNat := by simp; omega
    simp
    omega
  · have := cellsA_sub h2 (i := off + l * sz) (m := (h - l) * sz) (by omega)
    rw [← Nat.add_assoc] at this
    exact this
inductive Lo (n : Nat) : TV → Prop
  | cl {x : TV} : Cl x → Lo n x
  | agg {cs : List TV} : (∀ c ∈ cs, Lo n c) → Lo n (.agg cs)
  | tup {cs : List TV} : (∀ c ∈ cs, Lo n c) → Lo n (.tup cs)
  | fz {t : Bool} {sz k : Nat} {cs : List TV} : (∀ c ∈ cs, Lo n c) → Lo n (.fz t sz k cs)
  | fp {t : Bool} {cs : List TV} {off : Nat} : (∀ c ∈ cs, Lo n c) → Lo n (.fp t cs off)
  | own {i g sz off k cap : Nat} : Nat.blt i n = true → Lo n (.own i g sz off k cap)
  | pt {i g off : Nat} : Nat.blt i n = true → Lo n (.pt i g off)
  | fn {f : FuncId} {a b : List TV} : (∀ c ∈ a, Lo n c) → (∀ c ∈ b, Lo n c) → Lo n (.fn f a b)
theorem take_own {p : Pl} {n b : Nat} (h : ¬ isOwn p b) : ¬ isOwn (p.take n) b := by
  rintro ⟨i, g, hi⟩
  rw [List.getElem?_take] at hi
  split at hi
  · exact h ⟨i, g, hi⟩
  · cases hi
mutual
theorem VR.low {G : Heap} {D : Nat → Prop} {p : Pl} {n : Nat} : ∀ {x : TV} {w : Value}, VR G D p x w → Lo n x → VR G D (p.take n) x w
  | _, _, h, .cl c => h.conv (fun b hb ho => ⟨hb, take_own ho⟩) c
  | _, _, .agg a, .agg k => .agg (VRs.low a k)
  | _, _, .tup a, .tup k => .tup (VRs.low a k)
  | _, _, .fnil, .fz _ => .fnil
  | _, _, .fz a b c d e f g, .fz k => .fz a (VRs.low b k) c d e f ⟨g.1, take_own g.2⟩
  | _, _, .fp a b c, .fp k => .fp a (VRs.low b k) ⟨c.1, take_own c.2⟩
  | _, _, .own a b c d, .own k => by
    rw [Nat.blt_eq] at k
    have e : ∀ i, i < n → (p.take n)[i]? = p[i]? := fun i hi => by rw [List.getElem?_take, if_pos hi]
    exact .own (by obtain ⟨g', o, h1, h2⟩ := a; exact ⟨g', o, by rw [e _ k]; exact h1, h2⟩) (fun b' hb => b b' (by rw [e _ k] at hb; exact hb)) (fun hb => c (by rw [e _ k] at hb; exact hb)) d
  | _, _, .pt a b d, .pt k => by
    rw [Nat.blt_eq] at k
    have e : ∀ i, i < n → (p.take n)[i]? = p[i]? := fun i hi => by rw [List.getElem?_take, if_pos hi]
    exact .pt (by obtain ⟨g', o, h1, h2⟩ := a; exact ⟨g', o, by rw [e _ k]; exact h1, h2⟩) (fun b' hb => b b' (by rw [e _ k] at hb; exact hb)) d
  | _, _, .fn a b, .fn k l => .fn (VRs.low a k) (VRs.low b l)
theorem VRs.low {G : Heap} {D : Nat → Prop} {p : Pl} {n : Nat} : ∀ {x : List TV} {w : List Value}, VRs G D p x w → (∀ c ∈ x, Lo n c) → VRs G D (p.take n) x w
  | _, _, .nil, _ => .nil
  | _, _, .cons a b, k => .cons (VR.low a (k _ (List.mem_cons_self ..))) (VRs.low b fun c h => k c (List.mem_cons_of_mem _ h))
end
def LoE (n : Nat) : TEnv → Prop
  | [] => True
  | (_, x) :: E => Lo n x ∧ LoE n E
theorem LoE.lk {n : Nat} : ∀ {E : TEnv}, LoE n E → ∀ {k : Nat} {x : TV}, lkT E k = some x → Lo n x
  | [], _, k, x, h => by simp [lkT] at h
  | (j, y) :: E, hE, k, x, h => by
    rw [lkT_cons] at h
    split at h
    · cases h; exact hE.1
    · exact hE.2.lk h
def LoR (n : Nat) : List Root → Prop
  | [] => True
  | R :: l => (match R.dat with
    | none => True
    | some d => ∀ c ∈ d.2, Lo n c) ∧ LoR n l
theorem LoR.get {n : Nat} : ∀ {l : List Root}, LoR n l → ∀ {i : Nat} {g : Nat} {e : TypeId} {cs : List TV}, l[i]? = some ⟨g, some (e, cs)⟩ → ∀ c ∈ cs, Lo n c
  | [], _, i, g, e, cs, h => by simp at h
  | R :: l, hl, 0, g, e, cs, h => by simp at h; subst h; exact hl.1
  | R :: l, hl, i + 1, g, e, cs, h => hl.2.get (by simpa using h)
theorem g_pop {F : TEnv} {Th1 gar : List Root} (hT : Th = Th1 ++ gar) (hX : X.p.length ≤ Th1.length) (hF : subET F E) (hL : LoE Th1.length F) (hR : LoR Th1.length Th1) : ∀ T G p, Rl X E Th T G p → ∃ p', Rl X F Th1 T G p' := fun T G p hr => by
  subst hT
  have hlen : p.length = Th1.length + gar.length := by rw [hr.hr.len]; simp
  have e : ∀ i, i < Th1.length → (p.take Th1.length)[i]? = p[i]? := fun i hi => by rw [List.getElem?_take, if_pos hi]
  have ne : ∀ {i g : Nat} {o : Option (Option Nat)}, (p.take Th1.length)[i]? = some (g, o) → i < Th1.length ∧ p[i]? = some (g, o) := by
    intro i g o h
    rw [List.getElem?_take] at h
    split at h
    · exact ⟨by assumption, h⟩
    · cases h
  have hlt : ∀ {i g : Nat} {o : Option (Option Nat)}, X.p[i]? = some (g, o) → i < Th1.length := fun h => by
    have := (List.getElem?_eq_some_iff.1 h).1; omega
  refine ⟨p.take Th1.length, ⟨⟨hr.st.le.size, fun b hb ho => ⟨(hr.st.le.keep b hb ho).1, take_own (hr.st.le.keep b hb ho).2⟩, fun i g o hi => ?_⟩, fun b hb => ?_, fun i g b hi => hr.st.nw i g b (ne hi).2, fun i g b o hi hf => ?_, hr.st.tw⟩, hr.ol, ⟨?_, fun i j g g' b hi hj => hr.hr.inj i j g g' b (ne hi).2 (ne hj).2, fun i R hi => ?_⟩, fun k x hk => ?_, hr.dd, fun B hB => ⟨(hr.gl B hB).1, take_own (hr.gl B hB).2.1, (hr.gl B hB).2.2⟩⟩
  · rw [e i (hlt hi)]; exact hr.st.le.pl i g o hi
  · rcases hr.st.ow b hb with ⟨i, g, h1⟩ | h1
    · rcases Nat.lt_or_ge i Th1.length with h2 | h2
      · exact .inl ⟨i, g, by rw [e i h2]; exact h1⟩
      · exfalso
        rcases hr.st.nw i g b h1 with h3 | ⟨h3, _⟩
        · have := hlt h3; omega
        · have := hr.ol b hb; omega
    · exact .inr h1
  · obtain ⟨h1, h2⟩ := hr.st.tc i g b o hi hf
    exact ⟨by rw [e i (hlt hi)]; exact h1, h2⟩
  · rw [List.length_take]; omega
  · have hil := (List.getElem?_eq_some_iff.1 hi).1
    have := hr.hr.row i R (by rw [List.getElem?_append_left hil]; exact hi)
    unfold RowOk at this ⊢
    split
    · rename_i hd; rw [hd] at this; rw [e i hil]; exact this
    · rename_i e1 cs hd; rw [hd] at this
      rcases this with ⟨b, vs, h1, h2, h3, h4⟩ | ⟨h1, h2⟩
      · exact .inl ⟨b, vs, by rw [e i hil]; exact h1, h2, h3.low (hR.get (g := R.g) (e := e1) (by rw [hi, ← hd])), h4⟩
      · exact .inr ⟨h1, by rw [e i hil]; exact h2⟩
  · obtain ⟨w, h1, h2⟩ := (hr.sub hF).en k x hk
    exact ⟨w, h1, h2.low (hL.lk hk)⟩
theorem f_len {d sz n : Nat} {t : Bool} {cs : List TV} (hd : lkT E d = some (.fz t sz n cs)) : ∀ T G p, Rl X E Th T G p → n < 2 ^ 62 := fun T G p hr => by
  obtain ⟨w, _, h⟩ := hr.en _ _ hd
  exact (fz_lt h).1
end
end Go.Ab
namespace Go.Ab
class Enc (α : Type) where
  sz : Nat
  tv : α → TV
  df : α
  len : ∀ a, (tv a).cells.length = sz
  cl : ∀ a, Cl (tv a)
  nt : ∀ a, noTupB (tv a) = true
  pos : 0 < sz
abbrev cls {α : Type} [Enc α] (a : α) : List TV := (Enc.tv a).cells
abbrev lst {α : Type} [Enc α] (t : Bool) (xs : List α) : TV := .fz t (Enc.sz α) xs.length (xs.flatMap cls)
def at' {α : Type} [Enc α] (xs : List α) (k : Nat) : α := xs.getD k Enc.df
theorem Cl.cells {x : TV} (h : Cl x) : ∀ c ∈ x.cells, Cl c := by
  cases h with
  | agg h => exact h
  | v x => intro c hc; simp [TV.cells] at hc; subst hc; exact .v x
  | tup h => intro c hc; simp [TV.cells] at hc; subst hc; exact .tup h
  | fz h => intro c hc; simp [TV.cells] at hc; subst hc; exact .fz h
  | fp h => intro c hc; simp [TV.cells] at hc; subst hc; exact .fp h
  | fn h k => intro c hc; simp [TV.cells] at hc; subst hc; exact .fn h k
section
variable {α : Type} [Enc α]
theorem cls_cl (a : α) : ∀ c ∈ cls a, Cl c := (Enc.cl a).cells
theorem flat_cl (xs : List α) : ∀ c ∈ xs.flatMap cls, Cl c := by
  intro c hc
  obtain ⟨a, _, h⟩ := List.mem_flatMap.1 hc
  exact cls_cl a c h
theorem flat_len : ∀ xs : List α, (xs.flatMap cls).length = xs.length * Enc.sz α
  | [] => by simp
  | a :: xs => by rw [List.flatMap_cons, List.length_append, flat_len xs, Enc.len, List.length_cons, Nat.succ_mul]; omega
theorem lst_cl (xs : List α) : Cl (lst false xs) := .fz (flat_cl xs)
theorem flat_drop : ∀ (xs : List α) (k : Nat), (xs.flatMap cls).drop (k * Enc.sz α) = (xs.drop k).flatMap cls
  | [], k => by simp
  | a :: xs, 0 => by simp
  | a :: xs, k + 1 => by
    have h : cls a = (Enc.tv a).cells := rfl
    rw [List.flatMap_cons, List.drop_append, List.drop_eq_nil_of_le (by rw [Enc.len, Nat.succ_mul]; omega), List.nil_append, Enc.len, Nat.succ_mul, Nat.add_sub_cancel, flat_drop xs k]
    simp
theorem flat_take : ∀ (xs : List α) (k : Nat), (xs.flatMap cls).take (k * Enc.sz α) = (xs.take k).flatMap cls
  | [], k => by simp
  | a :: xs, 0 => by simp
  | a :: xs, k + 1 => by
    rw [List.flatMap_cons, List.take_append, List.take_of_length_le (by rw [Enc.len, Nat.succ_mul]; omega), Enc.len, Nat.succ_mul, Nat.add_sub_cancel, flat_take xs k]
    simp
theorem flat_row {xs : List α} {k : Nat} (h : k < xs.length) : ((xs.flatMap cls).drop (k * Enc.sz α)).take (Enc.sz α) = cls (at' xs k) := by
  rw [flat_drop]
  have h1 : xs.drop k = at' xs k :: xs.drop (k + 1) := by
    rw [List.drop_eq_getElem_cons h]; simp [at', h]
  rw [h1, List.flatMap_cons, List.take_append, List.take_of_length_le (by rw [Enc.len]; omega), Enc.len]
  simp
theorem flat_append (xs ys : List α) : (xs ++ ys).flatMap cls = xs.flatMap cls ++ ys.flatMap cls := List.flatMap_append
theorem flat_rep (a : α) (c : Nat) : (List.replicate c a).flatMap cls = (List.replicate c (cls a)).flatten := by
  induction c with
  | zero => rfl
  | succ c ih => rw [List.replicate_succ, List.replicate_succ, List.flatMap_cons, List.flatten_cons, ih]
theorem flat_set (xs : List α) (k : Nat) (a : α) (h : k < xs.length) : spliceT (xs.flatMap cls) (k * Enc.sz α) (cls a) = (xs.set k a).flatMap cls := by
  unfold spliceT
  rw [flat_take, Enc.len, show k * Enc.sz α + Enc.sz α = (k + 1) * Enc.sz α by rw [Nat.succ_mul], flat_drop]
  have : xs.set k a = xs.take k ++ a :: xs.drop (k + 1) := by rw [List.set_eq_take_append_cons_drop, if_pos h]
  rw [this, List.flatMap_append, List.flatMap_cons, List.append_assoc]
end
instance : Enc Int := ⟨1, fun n => .v (.int .i64 n), 0, fun _ => rfl, fun _ => .v _, fun _ => rfl, by decide⟩
instance : Enc Bool := ⟨1, fun n => .v (.bool n), false, fun _ => rfl, fun _ => .v _, fun _ => rfl, by decide⟩
instance {α : Type} [Enc α] : Enc (List α) := ⟨1, fun xs => lst false xs, [], fun _ => rfl, fun xs => lst_cl xs, fun _ => rfl, by decide⟩
structure I32 where
  v : Int
structure U8 where
  v : Int
structure U64 where
  v : Int
instance : Enc I32 := ⟨1, fun n => .v (.int .i32 n.v), ⟨0⟩, fun _ => rfl, fun _ => .v _, fun _ => rfl, by decide⟩
instance : Enc U8 := ⟨1, fun n => .v (.int .u8 n.v), ⟨0⟩, fun _ => rfl, fun _ => .v _, fun _ => rfl, by decide⟩
instance : Enc U64 := ⟨1, fun n => .v (.int .u64 n.v), ⟨0⟩, fun _ => rfl, fun _ => .v _, fun _ => rfl, by decide⟩
abbrev ti (n : Int) : TV := .v (.int .i64 n)
abbrev tb (b : Bool) : TV := .v (.bool b)

section
variable {P : Program} {X : Cx} {E : TEnv} {Th : List Root} {α : Type} [Enc α]
theorem opt_index_lst {t e : TypeId} {x i : Operand} {tg ag : Bool} {xs : List α} {k : IntKind} {j : Int} [hE : ElI P t e] {sz1 : Nat} [hT : TyI P e ag sz1] (hx : evTV E x = some (lst tg xs)) (hi : evTV E i = some (.v (.int k j))) (o1 : okOpd P x = true) (o2 : okOpd P i = true) (h0 : 0 ≤ j) (hj : j < xs.length) (hsz : sz1 = Enc.sz α) :
    OpT P X E Th (.indexAddr t x i) (.fp tg (cls (at' xs j.toNat)) 0) Th .no := by
  subst hsz
  have := opt_index_fz (X := X) (Th := Th) (hE := hE) (hT := hT) hx hi o1 o2 h0 hj
  rw [flat_row (by omega)] at this
  exact this
theorem opt_index_lstN {t e : TypeId} {x i : Operand} {tg ag : Bool} {sz1 : Nat} {xs : List α} {k : IntKind} {j : Nat} [hE : ElI P t e] [hT : TyI P e ag sz1] (hx : evTV E x = some (lst tg xs)) (hi : evTV E i = some (.v (.int k (j : Int)))) (o1 : okOpd P x = true) (o2 : okOpd P i = true) (hj : j < xs.length) (hsz : sz1 = Enc.sz α) :
    OpT P X E Th (.indexAddr t x i) (.fp tg (cls (at' xs j)) 0) Th .no := by
  have := opt_index_lst (X := X) (Th := Th) (hE := hE) (hT := hT) hx hi o1 o2 (by omega) (by omega) hsz
  rw [Int.toNat_natCast] at this
  exact this
theorem opt_slice_lst {t e : TypeId} {x : Operand} {lo hi : Option Operand} {tg ag : Bool} {xs : List α} {l h : Nat} [hE : ElI P t e] {sz1 : Nat} [hT : TyI P e ag sz1] (hx : evTV E x = some (lst tg xs)) (o1 : okOpd P x = true) (hlo : slEv E P lo l 0) (hhi : slEv E P hi h xs.length) (hl : l ≤ h) (hh : h ≤ xs.length) (hsz : sz1 = Enc.sz α) :
    OpT P X E Th (.slice t x lo hi none) (lst tg ((xs.take h).drop l)) Th .no := by
  subst hsz
  have := opt_slice_fz (X := X) (Th := Th) (hE := hE) (hT := hT) hx o1 hlo hhi hl hh
  have e : ((xs.flatMap cls).drop (l * Enc.sz α)).take ((h - l) * Enc.sz α) = ((xs.take h).drop l).flatMap cls := by
    rw [flat_drop, flat_take, List.drop_take]
  have e2 : h - l = ((xs.take h).drop l).length := by simp; omega
  rw [e] at this
  rw [e2] at this
  exact this
theorem opt_slice_lo {t e : TypeId} {x y : Operand} {tg ag : Bool} {xs : List α} {l : Nat} {k : IntKind} [hE : ElI P t e] {sz1 : Nat} [hT : TyI P e ag sz1] (hx : evTV E x = some (lst tg xs)) (hy : evTV E y = some (.v (.int k (l : Int)))) (o1 : okOpd P x = true) (o2 : okOpd P y = true) (hl : l ≤ xs.length) (hsz : sz1 = Enc.sz α) :
    OpT P X E Th (.slice t x (some y) none none) (lst tg (xs.drop l)) Th .no := by
  subst hsz
  have := opt_slice_lst (X := X) (Th := Th) (hE := hE) (hT := hT) (lo := some y) (hi := none) (h := xs.length) hx o1 ⟨o2, k, hy⟩ rfl hl (Nat.le_refl _) rfl
  rw [List.take_length] at this
  exact this
theorem opt_slice_hi {t e : TypeId} {x y : Operand} {tg ag : Bool} {xs : List α} {h : Nat} {k : IntKind} [hE : ElI P t e] {sz1 : Nat} [hT : TyI P e ag sz1] (hx : evTV E x = some (lst tg xs)) (hy : evTV E y = some (.v (.int k (h : Int)))) (o1 : okOpd P x = true) (o2 : okOpd P y = true) (hh : h ≤ xs.length) (hsz : sz1 = Enc.sz α) :
    OpT P X E Th (.slice t x none (some y) none) (lst tg (xs.take h)) Th .no := by
  subst hsz
  have := opt_slice_lst (X := X) (Th := Th) (hE := hE) (hT := hT) (lo := none) (hi := some y) (l := 0) hx o1 rfl ⟨o2, k, hy⟩ (Nat.zero_le _) hh rfl
  simpa using this
abbrev rl (g : Nat) (e : TypeId) (xs : List α) : Root := ⟨g, some (e, xs.flatMap cls)⟩
abbrev ownl (i g : Nat) (xs : List α) : TV := .own i g (Enc.sz α) 0 xs.length xs.length
theorem opt_append_l {t e : TypeId} {ag : Bool} {by_ i g n cap : Nat} {z : Value} {x y : Operand} {b : TV} {xs ys : List α} [hE : ElI P t e] {sz1 : Nat} [hT : TyI P e ag sz1] [hB : ByI P e by_ z] (hx : evTV E x = some (.own i g (Enc.sz α) 0 n cap)) (hy : evTV E y = some b) (hi : Th[i]? = some (rl g e xs)) (hn : n = xs.length) (hs : Src Th (Enc.sz α) b ys.length (ys.flatMap cls)) (o1 : okOpd P x = true) (o2 : okOpd P y = true)
    (hz : z.cells.size = Enc.sz α) (hlen : (xs.length + ys.length) * (by_ + 1) ≤ 2 ^ 47) (hsz : sz1 = Enc.sz α) :
    OpT P X E Th (.call { callee := .builtin .append, args := #[x, y], argTypes := #[t, t] }) (ownl i (g + 1) (xs ++ ys)) (Th.set i (rl (g + 1) e (xs ++ ys))) (.all i) := by
  subst hsz
  subst hn
  have h0 : Nat.blt 0 (Enc.sz α) = true := by rw [Nat.blt_eq]; exact Enc.pos
  have := opt_append (X := X) (hE := hE) (hT := hT) (hB := hB) hx hy hi hs o1 o2 h0 hz (by rw [flat_len]; omega) hlen
  have e1 : ((xs.flatMap cls).drop (0 * Enc.sz α)).take (xs.length * Enc.sz α) ++ ys.flatMap cls = (xs ++ ys).flatMap cls := by
    rw [flat_drop, flat_take, flat_append]; simp
  rw [e1] at this
  rw [show xs.length + ys.length = (xs ++ ys).length by simp] at this
  exact this
theorem src_lst {tg : Bool} {ys : List α} : Src Th (Enc.sz α) (lst tg ys) ys.length (ys.flatMap cls) := .fz
theorem dr_own {t : Bool} {i g : Nat} {e : TypeId} {xs : List α} {cap : Nat} (h : Th[i]? = some (rl g e xs)) (hn : xs.length < 2 ^ 62) (hc : xs.length ≤ cap) : Dr Th t (.own i g (Enc.sz α) 0 xs.length cap) (lst t xs) := by
  refine .own h (by rw [flat_len]; omega) hc hn Enc.pos ?_
  rw [flat_drop, flat_take]
  simp only [List.drop_zero, List.take_length]
  exact Drs.cl (flat_cl xs)
theorem opt_load_lst_pt {t : TypeId} {x : Operand} {i g n : Nat} {e : TypeId} {xs : List α} {j : Nat} {sz1 : Nat} [hT : TyI P t true sz1] (hx : evTV E x = some (.pt i g n)) (hi : Th[i]? = some (rl g e xs)) (o1 : okOpd P x = true) (hn : n = j * Enc.sz α) (hj : j < xs.length) (hsz : sz1 = Enc.sz α) : OpT P X E Th (.load t x) (.agg (cls (at' xs j))) Th .no := by
  subst hsz
  subst hn
  have hle : (j + 1) * Enc.sz α ≤ xs.length * Enc.sz α := Nat.mul_le_mul_right _ hj
  rw [Nat.succ_mul] at hle
  have hp := Enc.pos (α := α)
  have := opt_load_pt_a (X := X) (hT := hT) hx hi o1 (by rw [Nat.ble_eq, flat_len]; exact hle) (by rw [Nat.blt_eq, flat_len]; omega)
  rw [flat_row hj] at this
  exact this
theorem opt_load_lst_pt1 {t : TypeId} {x : Operand} {i g n : Nat} {e : TypeId} {xs : List α} {j m o : Nat} {y : TV} [hT : TyI P t false m] (hx : evTV E x = some (.pt i g n)) (hi : Th[i]? = some (rl g e xs)) (o1 : okOpd P x = true) (hn : n = j * Enc.sz α + o) (ho : o < Enc.sz α) (hj : j < xs.length) (hy : (cls (at' xs j))[o]? = some y) : OpT P X E Th (.load t x) y Th .no := by
  subst hn
  refine opt_load_pt_1 (X := X) (hT := hT) hx hi o1 ?_
  have hr := flat_row hj
  rw [← hr, List.getElem?_take, if_pos ho, List.getElem?_drop] at hy
  exact hy
theorem opt_lit_l {t e : TypeId} {ag : Bool} {sz len by_ : Nat} {z : Value} {parts : Array (Nat × Operand)} (ys : List α) [hE : ElI P t e] [hT : TyI P e ag sz] [hB : ByI P e by_ z] {r : List (Nat × TV)} (hp : partsT E parts.toList = some r) (ok : (parts.toList.all fun q => okOpd P q.2) = true) (hn : (r.all fun q => noTupB q.2) = true)
    (hl : Nat.ble (len * sz) 1000000 = true) (h0 : Nat.blt 0 sz = true) (hz : z.cells.size = sz) (hzf : flat z = true) (hlen : len = ys.length) (hsz : sz = Enc.sz α) (hf : fillT (fun i => some (i * sz, sz)) (zerosT z len) r = some (ys.flatMap cls)) : OpT P X E Th (.buildSlice t len parts) (lst false ys) Th .no := by
  subst hsz hlen
  exact opt_lit (X := X) (hE := hE) (hT := hT) (hB := hB) hp ok hn hl h0 hz hzf hf
theorem opt_litO_l {t e : TypeId} {ag : Bool} {sz len by_ : Nat} {z : Value} {parts : Array (Nat × Operand)} (ys : List α) [hE : ElI P t e] [hT : TyI P e ag sz] [hB : ByI P e by_ z] {r : List (Nat × TV)} (hp : partsT E parts.toList = some r) (ok : (parts.toList.all fun q => okOpd P q.2) = true) (hn : (r.all fun q => noTupB q.2) = true)
    (hl : Nat.ble (len * sz) 1000000 = true) (h0 : Nat.blt 0 sz = true) (hz : z.cells.size = sz) (hzf : flat z = true) (hlen : len = ys.length) (hsz : sz = Enc.sz α) (hf : fillT (fun i => some (i * sz, sz)) (zerosT z len) r = some (ys.flatMap cls)) : OpT P X E Th (.buildSlice t len parts) (ownl Th.length 0 ys) (Th ++ [rl 0 e ys]) .no := by
  subst hsz hlen
  exact opt_litO (X := X) (hE := hE) (hT := hT) (hB := hB) hp ok hn hl h0 hz hzf hf
theorem opt_index_l {t e : TypeId} {x i : Operand} {ag : Bool} {sz1 l g n cap : Nat} {e' : TypeId} {cs : List TV} {k : IntKind} {j : Int} [hE : ElI P t e] [hT : TyI P e ag sz1] (hx : evTV E x = some (.own l g sz1 0 n cap)) (hl : Th[l]? = some ⟨g, some (e', cs)⟩) (hi : evTV E i = some (.v (.int k j))) (o1 : okOpd P x = true) (o2 : okOpd P i = true) (h0 : 0 ≤ j) (hj : j < n) :
    OpT P X E Th (.indexAddr t x i) (.pt l g (j.toNat * sz1)) Th .no := by
  have := opt_index_own (X := X) (hE := hE) (hT := hT) hx hl hi o1 o2 h0 hj
  rw [Nat.zero_mul, Nat.zero_add] at this
  exact this
theorem opt_index_lN {t e : TypeId} {x i : Operand} {ag : Bool} {sz1 l g n cap : Nat} {e' : TypeId} {cs : List TV} {k : IntKind} {j : Nat} [hE : ElI P t e] [hT : TyI P e ag sz1] (hx : evTV E x = some (.own l g sz1 0 n cap)) (hl : Th[l]? = some ⟨g, some (e', cs)⟩) (hi : evTV E i = some (.v (.int k (j : Int)))) (o1 : okOpd P x = true) (o2 : okOpd P i = true) (hj : j < n) :
    OpT P X E Th (.indexAddr t x i) (.pt l g (j * sz1)) Th .no := by
  have := opt_index_l (X := X) (hE := hE) (hT := hT) hx hl hi o1 o2 (by omega) (by omega)
  rw [Int.toNat_natCast] at this
  exact this
theorem opt_load_l1 {t : TypeId} {x : Operand} {i g j m sz1 : Nat} {e : TypeId} {xs : List α} {y : TV} [hT : TyI P t false m] (hx : evTV E x = some (.pt i g (j * sz1))) (hi : Th[i]? = some (rl g e xs)) (o1 : okOpd P x = true) (hj : j < xs.length) (hy : (cls (at' xs j))[0]? = some y) (hsz : sz1 = Enc.sz α) : OpT P X E Th (.load t x) y Th .no := by
  subst hsz
  exact opt_load_lst_pt1 (X := X) (hT := hT) (o := 0) hx hi o1 rfl Enc.pos hj hy
theorem opt_load_l {t : TypeId} {x : Operand} {i g j sz1 sz2 : Nat} {e : TypeId} {xs : List α} [hT : TyI P t true sz2] (hx : evTV E x = some (.pt i g (j * sz1))) (hi : Th[i]? = some (rl g e xs)) (o1 : okOpd P x = true) (hj : j < xs.length) (hsz : sz1 = Enc.sz α) (hs2 : sz2 = Enc.sz α) : OpT P X E Th (.load t x) (.agg (cls (at' xs j))) Th .no := by
  subst hsz hs2
  exact opt_load_lst_pt (X := X) (hT := hT) hx hi o1 rfl hj rfl
theorem opt_store_l {t : TypeId} {x y : Operand} {i g j n sz1 : Nat} {e : TypeId} {xs : List α} {a : α} {v : TV} {ag : Bool} [hT : TyI P t ag n] (hx : evTV E x = some (.pt i g (j * sz1))) (hy : evTV E y = some v) (hi : Th[i]? = some (rl g e xs)) (o1 : okOpd P x = true) (o2 : okOpd P y = true) (ha : v.noTup) (hv : v.cells = cls a) (hj : j < xs.length) (hsz : sz1 = Enc.sz α) (hn : n = Enc.sz α) :
    OpT P X E Th (.store t x y) (.tup []) (Th.set i (rl g e (xs.set j a))) (.at i (j * sz1) (j * sz1 + n)) := by
  subst hsz hn
  have hle : (j + 1) * Enc.sz α ≤ xs.length * Enc.sz α := Nat.mul_le_mul_right _ hj
  rw [Nat.succ_mul] at hle
  have := opt_store (X := X) (hT := hT) hx hy hi o1 o2 ha (by rw [hv, Enc.len]) (by rw [Nat.ble_eq, flat_len]; exact hle) (by rw [Nat.blt_eq]; exact Enc.pos)
  rw [hv, flat_set xs j a hj] at this
  exact this
theorem opt_store_row {t : TypeId} {x y : Operand} {i g n : Nat} {e : TypeId} {cs : List TV} {a : TV} {ag : Bool} [hT : TyI P t ag n] (hx : evTV E x = some (.pt i g 0)) (hy : evTV E y = some a) (hi : Th[i]? = some ⟨g, some (e, cs)⟩) (o1 : okOpd P x = true) (o2 : okOpd P y = true) (ha : a.noTup) (hn : a.cells.length = n) (hl : cs.length = n) (h0 : Nat.blt 0 n = true) :
    OpT P X E Th (.store t x y) (.tup []) (Th.set i ⟨g, some (e, a.cells)⟩) (.at i 0 n) := by
  have := opt_store (X := X) (hT := hT) hx hy hi o1 o2 ha hn (by rw [Nat.ble_eq]; omega) h0
  have e1 : spliceT cs 0 a.cells = a.cells := by
    unfold spliceT
    rw [List.take_zero, List.nil_append, Nat.zero_add, List.drop_eq_nil_of_le (by omega), List.append_nil]
  rw [e1, Nat.zero_add] at this
  exact this
theorem opt_make_l {t e : TypeId} {ag : Bool} {sz by_ c : Nat} {k k' : IntKind} {z : Value} {x y : Operand} (a : α) [hE : ElI P t e] [hT : TyI P e ag sz] [hB : ByI P e by_ z] (hx : evTV E x = some (.v (.int k (c : Int)))) (hy : evTV E y = some (.v (.int k' (c : Int)))) (o1 : okOpd P x = true) (o2 : okOpd P y = true)
    (hb : by_ * c ≤ 2 ^ 47) (hc : c ≤ 2 ^ 47) (hsz : sz = Enc.sz α) (hz : z.cells.size = sz) (hzf : flat z = true) (ha : (ofVal z).cells = cls a) : OpT P X E Th (.makeSlice t x y) (.own Th.length 0 sz 0 c c) (Th ++ [rl 0 e (List.replicate c a)]) .no := by
  subst hsz
  have := opt_make (X := X) (Th := Th) (hE := hE) (hT := hT) (hB := hB) hx hy o1 o2 (Nat.le_refl _) hb hc (by rw [Nat.blt_eq]; exact Enc.pos) hz hzf
  unfold zerosT at this
  rw [ha, ← flat_rep] at this
  exact this
theorem dr_own_n {t : Bool} {i g n : Nat} {e : TypeId} {xs : List α} {cap : Nat} (h : Th[i]? = some (rl g e xs)) (hl : n = xs.length) (hn : n < 2 ^ 62) (hc : n ≤ cap) : Dr Th t (.own i g (Enc.sz α) 0 n cap) (lst t xs) := by
  subst hl; exact dr_own h hn hc
theorem dr_ow {t : Bool} {i g n sz cap : Nat} {e : TypeId} {xs : List α} (h : Th[i]? = some (rl g e xs)) (hl : n = xs.length) (hsz : sz = Enc.sz α) (hn : n < 2 ^ 62) (hc : n ≤ cap) : Dr Th t (.own i g sz 0 n cap) (lst t xs) := by
  subst hsz; exact dr_own_n h hl hn hc
end
end Go.Ab
