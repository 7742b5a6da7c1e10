/- The road to a card of this seat: T9, K, L1. Each theorem holds for every input that its own premises speak of. -/
import Derived.Test.YtaaeeiheeihjaaaDoorA6
set_option linter.all false
namespace Go.Ab
theorem sti_struct {P : Program} {t : TypeId} {z : Value} {places : List (Nat × Nat)} (hz : zeroA P t = some z) (hf : flat z = true) (h : (match P.underlying t with
    | some (.struct fields) => fields.toList.mapM fun f => (sizeA P f.type).map fun n => (f.offset, n)
    | _ => none) = some places) : StI P t (fun i => places[i]?) z := by
  refine ⟨hz, hf, fun parts hp => ?_⟩
  split at h
  · rename_i fields hu
    simp only [buildA, hz, hf, hp, hu, and_self, if_true, h]
  · cases h
theorem sti_array {P : Program} {t e : TypeId} {n sz : Nat} {z : Value} (hz : zeroA P t = some z) (hf : flat z = true) (hu : P.underlying t = some (.array n e)) (hs : sizeA P e = some sz) : StI P t (fun i => some (i * sz, sz)) z := by
  refine ⟨hz, hf, fun parts hp => ?_⟩
  simp only [buildA, hz, hf, hp, hu, and_self, if_true, hs]
theorem fz_own {α : Type} [Enc α] {i g cap : Nat} {xs : List α} {cs : List TV} {n : Nat} (hc : cs = xs.flatMap cls) (hn : n = xs.length) (h1 : xs.length < 2 ^ 62) (h2 : xs.length ≤ cap) : Fz i g cs (.own i g (Enc.sz α) 0 n cap) (lst false xs) := by
  subst hc hn
  have := Fz.own (i := i) (g := g) (cs := xs.flatMap cls) (sz := Enc.sz α) (off := 0) (n := xs.length) (cap := cap) (by rw [flat_len]; omega) h2 h1 Enc.pos
  rw [flat_drop, flat_take] at this
  simpa using this
theorem g_nilcell {X : Cx} {E : TEnv} {Th : List Root} {i g : Nat} {e : TypeId} {cs : List TV} (o sz : Nat) (e' : TypeId) (hi : Th[i]? = some ⟨g, some (e, cs)⟩) (ho : cs[o]? = some (.v (.slice none 0 0))) : ∀ T G p, Rl X E Th T G p → ∃ p', Rl X E ((Th.set i ⟨g, some (e, cs.set o (.own Th.length 0 sz 0 0 0))⟩) ++ [⟨0, some (e', [])⟩]) T G p' := fun T G p hr => by
  have hs := StR.pushNil G p
  have hil := (List.getElem?_eq_some_iff.1 hi).1
  have h0 := hr.hr.pushNil e'
  have hK : Known (p ++ [(0, some none)]) Th.length 0 := ⟨0, some none, by rw [← hr.hr.len]; simp, Nat.le_refl _⟩
  refine ⟨_, hr.st.trans hs fun i o _ h => by simp [noEff] at h, hr.ol, ⟨by simp [hr.hr.len], h0.inj, fun j R hj => ?_⟩, fun k x hk => ?_, hr.dd, hr.gl.le hs.le⟩
  · rcases last_get hj with ⟨h1, h2⟩ | ⟨h1, rfl⟩
    · rw [List.getElem?_set] at h2
      split at h2
      · rename_i hij
        subst hij
        cases h2
        have hc : 0 < cs.length := by have := (List.getElem?_eq_some_iff.1 ho).1; omega
        obtain ⟨b, vs, k1, k2, k3, k4⟩ := hr.hr.get1 hi hc
        refine .inl ⟨b, vs, by rw [List.getElem?_append_left (by rw [hr.hr.len]; exact hil)]; exact k1, k2, ?_, k4⟩
        have k5 := k3.mono hs.le
        refine VRs.mk (by simp [k5.length]) fun q c v hq hv => ?_
        rw [List.getElem?_set] at hq
        split at hq
        · rename_i hoq
          subst hoq
          have hol := (List.getElem?_eq_some_iff.1 ho).1
          rw [if_pos hol] at hq
          cases hq
          obtain ⟨v', m1, m2⟩ := k5.get ho
          rw [hv] at m1; cases m1
          rw [m2.flat_eq]
          refine .own hK (fun b hb => ?_) (fun _ => ⟨rfl, rfl, rfl⟩) trivial
          rw [← hr.hr.len] at hb; simp at hb
        · obtain ⟨v', m1, m2⟩ := k5.get hq
          rw [hv] at m1; cases m1; exact m2
      · exact h0.row j R (by rw [List.getElem?_append_left (by simpa using h1)]; exact h2)
    · exact h0.row j _ (by rw [h1]; simp)
  · obtain ⟨w, h1, h2⟩ := hr.en k x hk
    exact ⟨w, h1, h2.mono hs.le⟩
section
variable {P : Program} {X : Cx} {mk : MK} {N : Nat} {E : TEnv} {Th : List Root} {Q : TPost}
theorem putET_some {d : Tmp} {o : Option Tmp} (h : o = some d) (x : TV) (E : TEnv) : putET o x E = (d, x) :: E := by subst h; rfl
theorem putET_none {o : Option Tmp} (h : o = none) (x : TV) (E : TEnv) : putET o x E = E := by subst h; rfl
theorem okDst_some {d N : Nat} {o : Option Tmp} (h : o = some d) (hN : Nat.blt d N = true) : okDst o N = true := by subst h; exact hN
theorem okDst_none {N : Nat} {o : Option Tmp} (h : o = none) : okDst o N = true := by subst h; rfl
variable {ops : Array Oper} {rest : List Oper} {K : TEnv → List Root → Prop} {K2 : TEnv → List Root → List Rec → Prop} {Th' : List Root} {f : EffD} {o : Oper} {op : Op} {x : TV} {d : Tmp}
theorem wot_o (ho : o.op = op) (hop : OpT P X E Th op x Th' .no) (hg : o.guard = none) (hdst : o.dst = some d) (hN : Nat.blt d N = true) (h : WOt P X ops rest N ((d, x) :: E) Th' K) : WOt P X ops (o :: rest) N E Th K :=
  wot_op ho hop hg (okDst_some hdst hN) (by rw [putET_some hdst]; exact h)
theorem wot_of (ho : o.op = op) (hop : OpT P X E Th op x Th' f) (hf : EffOk X f) (hg : o.guard = none) (hdst : o.dst = some d) (hN : Nat.blt d N = true) (h : WOt P X ops rest N ((d, x) :: E) Th' K) : WOt P X ops (o :: rest) N E Th K :=
  wot_opf ho hop hf hg (okDst_some hdst hN) (by rw [putET_some hdst]; exact h)
theorem wot_of0 (ho : o.op = op) (hop : OpT P X E Th op x Th' f) (hf : EffOk X f) (hg : o.guard = none) (hdst : o.dst = none) (h : WOt P X ops rest N E Th' K) : WOt P X ops (o :: rest) N E Th K :=
  wot_opf ho hop hf hg (okDst_none hdst) (by rw [putET_none hdst]; exact h)
theorem wtt_o (ho : o.op = op) (hop : OpT P X E Th op x Th' .no) (hg : o.guard = none) (hdst : o.dst = some d) (hN : Nat.blt d N = true) (h : WTt P X ops rest N ((d, x) :: E) Th' (fun E' Th1 tr => K2 E' Th1 (⟨E, Th, .no⟩ :: tr))) : WTt P X ops (o :: rest) N E Th K2 :=
  wtt_op ho hop hg (okDst_some hdst hN) (by rw [putET_some hdst]; exact h)
theorem wtt_of (ho : o.op = op) (hop : OpT P X E Th op x Th' f) (hf : EffOk X f) (hg : o.guard = none) (hdst : o.dst = some d) (hN : Nat.blt d N = true) (h : WTt P X ops rest N ((d, x) :: E) Th' (fun E' Th1 tr => K2 E' Th1 (⟨E, Th, f⟩ :: tr))) : WTt P X ops (o :: rest) N E Th K2 :=
  wtt_opf ho hop hf hg (okDst_some hdst hN) (by rw [putET_some hdst]; exact h)
theorem wtt_of0 (ho : o.op = op) (hop : OpT P X E Th op x Th' f) (hf : EffOk X f) (hg : o.guard = none) (hdst : o.dst = none) (h : WTt P X ops rest N E Th' (fun E' Th1 tr => K2 E' Th1 (⟨E, Th, f⟩ :: tr))) : WTt P X ops (o :: rest) N E Th K2 :=
  wtt_opf ho hop hf hg (okDst_none hdst) (by rw [putET_none hdst]; exact h)
theorem wot_og (ho : o.op = op) (hop : OpT P X E Th op x Th' .no) {j : Nat} {b t : Bool} {e : Tmp} (hg : o.guard = some (j, b)) (hj : (ops[j]?).bind (·.dst) = some e) (hv : lkT E e = some (.v (.bool t))) (htb : t = b) (hdst : o.dst = some d) (hN : Nat.blt d N = true) (h : WOt P X ops rest N ((d, x) :: E) Th' K) : WOt P X ops (o :: rest) N E Th K :=
  wot_op_g ho hop hg hj hv htb (okDst_some hdst hN) (by rw [putET_some hdst]; exact h)
theorem wtt_og (ho : o.op = op) (hop : OpT P X E Th op x Th' .no) {j : Nat} {b t : Bool} {e : Tmp} (hg : o.guard = some (j, b)) (hj : (ops[j]?).bind (·.dst) = some e) (hv : lkT E e = some (.v (.bool t))) (htb : t = b) (hdst : o.dst = some d) (hN : Nat.blt d N = true) (h : WTt P X ops rest N ((d, x) :: E) Th' (fun E' Th1 tr => K2 E' Th1 (⟨E, Th, .no⟩ :: tr))) : WTt P X ops (o :: rest) N E Th K2 :=
  wtt_op_g ho hop hg hj hv htb (okDst_some hdst hN) (by rw [putET_some hdst]; exact h)
theorem wot_sg {j : Nat} {b t : Bool} {e : Tmp} (hg : o.guard = some (j, b)) (hj : (ops[j]?).bind (·.dst) = some e) (hv : lkT E e = some (.v (.bool t))) (htb : t = !b) (hdst : o.dst = some d) (hN : Nat.blt d N = true) (h : WOt P X ops rest N ((d, .tup []) :: E) Th K) : WOt P X ops (o :: rest) N E Th K :=
  wot_skip_g hg hj hv htb (okDst_some hdst hN) (by rw [putET_some hdst]; exact h)
theorem wtt_sg {j : Nat} {b t : Bool} {e : Tmp} (hg : o.guard = some (j, b)) (hj : (ops[j]?).bind (·.dst) = some e) (hv : lkT E e = some (.v (.bool t))) (htb : t = !b) (hdst : o.dst = some d) (hN : Nat.blt d N = true) (h : WTt P X ops rest N ((d, .tup []) :: E) Th (fun E' Th1 tr => K2 E' Th1 (⟨E, Th, .no⟩ :: tr))) : WTt P X ops (o :: rest) N E Th K2 :=
  wtt_skip_g hg hj hv htb (okDst_some hdst hN) (by rw [putET_some hdst]; exact h)
theorem wtt_su {j : Nat} {b : Bool} {e : Tmp} (hg : o.guard = some (j, b)) (hj : (ops[j]?).bind (·.dst) = some e) (hv : lkT E e = some (.tup [])) (hdst : o.dst = some d) (hN : Nat.blt d N = true) (h : WTt P X ops rest N ((d, .tup []) :: E) Th (fun E' Th1 tr => K2 E' Th1 (⟨E, Th, .no⟩ :: tr))) : WTt P X ops (o :: rest) N E Th K2 :=
  wtt_skip_u hg hj hv (okDst_some hdst hN) (by rw [putET_some hdst]; exact h)
theorem wot_c [Gl P] (hX : X.tb = Gl.tb P) {g : FuncId} {as as' : List TV} {r : TV} (ho : o.op = op) (hc : CallT P E op g as) (hd : Drs Th true as as') (hp : Pu P g as' (Eq r)) (hcl : Cl r) (hg : o.guard = none) (hdst : o.dst = some d) (hN : Nat.blt d N = true) (h : WOt P X ops rest N ((d, r) :: E) Th K) : WOt P X ops (o :: rest) N E Th K :=
  wot_pu1 hX ho hc hd hp hcl hg (okDst_some hdst hN) (by rw [putET_some hdst]; exact h)
theorem wtt_c [Gl P] (hX : X.tb = Gl.tb P) {g : FuncId} {as as' : List TV} {r : TV} (ho : o.op = op) (hc : CallT P E op g as) (hd : Drs Th true as as') (hp : Pu P g as' (Eq r)) (hcl : Cl r) (hg : o.guard = none) (hdst : o.dst = some d) (hN : Nat.blt d N = true) (h : WTt P X ops rest N ((d, r) :: E) Th (fun E' Th1 tr => K2 E' Th1 (⟨E, Th, .no⟩ :: tr))) : WTt P X ops (o :: rest) N E Th K2 :=
  wtt_pu1 hX ho hc hd hp hcl hg (okDst_some hdst hN) (by rw [putET_some hdst]; exact h)
theorem wot_cg [Gl P] (hX : X.tb = Gl.tb P) {g : FuncId} {as as' : List TV} {r : TV} (ho : o.op = op) (hc : CallT P E op g as) (hd : Drs Th true as as') (hp : Pu P g as' (Eq r)) (hcl : Cl r) {j : Nat} {b t : Bool} {e : Tmp} (hg : o.guard = some (j, b)) (hj : (ops[j]?).bind (·.dst) = some e) (hv : lkT E e = some (.v (.bool t))) (htb : t = b) (hdst : o.dst = some d) (hN : Nat.blt d N = true) (h : WOt P X ops rest N ((d, r) :: E) Th K) : WOt P X ops (o :: rest) N E Th K :=
  wot_step (R := fun x Th1 => r = x ∧ Th1 = Th) (fun T G p hr => by rw [wantedT hg hj hv hr, htb]; simp) (EffOk.no X) (pu_run hX hc hd hp (by rintro _ rfl; exact hcl) ho) (okDst_some hdst hN) (by rintro _ _ ⟨rfl, rfl⟩; rw [putET_some hdst]; exact h)
theorem wtt_cg [Gl P] (hX : X.tb = Gl.tb P) {g : FuncId} {as as' : List TV} {r : TV} (ho : o.op = op) (hc : CallT P E op g as) (hd : Drs Th true as as') (hp : Pu P g as' (Eq r)) (hcl : Cl r) {j : Nat} {b t : Bool} {e : Tmp} (hg : o.guard = some (j, b)) (hj : (ops[j]?).bind (·.dst) = some e) (hv : lkT E e = some (.v (.bool t))) (htb : t = b) (hdst : o.dst = some d) (hN : Nat.blt d N = true) (h : WTt P X ops rest N ((d, r) :: E) Th (fun E' Th1 tr => K2 E' Th1 (⟨E, Th, .no⟩ :: tr))) : WTt P X ops (o :: rest) N E Th K2 :=
  wtt_step (R := fun x Th1 => r = x ∧ Th1 = Th) (fun T G p hr => by rw [wantedT hg hj hv hr, htb]; simp) (EffOk.no X) (pu_run hX hc hd hp (by rintro _ rfl; exact hcl) ho) (okDst_some hdst hN) (by rintro _ _ ⟨rfl, rfl⟩; rw [putET_some hdst]; exact h)
theorem wot_ce [Gl P] (hX : X.tb = Gl.tb P) {g : FuncId} {as as' : List TV} {R : TV → Prop} (ho : o.op = op) (hc : CallT P E op g as) (hd : Drs Th true as as') (hp : Pu P g as' R) (hcl : ∀ r, R r → Cl r) (hg : o.guard = none) (hdst : o.dst = some d) (hN : Nat.blt d N = true) (h : ∀ r, R r → WOt P X ops rest N ((d, r) :: E) Th K) : WOt P X ops (o :: rest) N E Th K :=
  wot_pu hX ho hc hd hp hcl hg (okDst_some hdst hN) (by intro r hr; rw [putET_some hdst]; exact h r hr)
theorem wtt_ce [Gl P] (hX : X.tb = Gl.tb P) {g : FuncId} {as as' : List TV} {R : TV → Prop} (ho : o.op = op) (hc : CallT P E op g as) (hd : Drs Th true as as') (hp : Pu P g as' R) (hcl : ∀ r, R r → Cl r) (hg : o.guard = none) (hdst : o.dst = some d) (hN : Nat.blt d N = true) (h : ∀ r, R r → WTt P X ops rest N ((d, r) :: E) Th (fun E' Th1 tr => K2 E' Th1 (⟨E, Th, .no⟩ :: tr))) : WTt P X ops (o :: rest) N E Th K2 :=
  wtt_pu hX ho hc hd hp hcl hg (okDst_some hdst hN) (by intro r hr; rw [putET_some hdst]; exact h r hr)
theorem wot_ci [Gl P] (hX : X.tb = Gl.tb P) {g : FuncId} {as : List TV} {R : TV → List Root → EffD → Prop} {F : EffD} (ho : o.op = op) (hc : CallT P E op g as) (hp : Im P g as Th R) (hF : ∀ r Th' e, R r Th' e → e = F) (hf : EffOk X F) (hg : o.guard = none) (hdst : o.dst = some d) (hN : Nat.blt d N = true) (h : ∀ r Th', R r Th' F → WOt P X ops rest N ((d, r) :: E) Th' K) : WOt P X ops (o :: rest) N E Th K :=
  wot_im hX ho hc hp hF hf hg (okDst_some hdst hN) (by intro r Th' hr; rw [putET_some hdst]; exact h r Th' hr)
theorem wtt_ci [Gl P] (hX : X.tb = Gl.tb P) {g : FuncId} {as : List TV} {R : TV → List Root → EffD → Prop} {F : EffD} (ho : o.op = op) (hc : CallT P E op g as) (hp : Im P g as Th R) (hF : ∀ r Th' e, R r Th' e → e = F) (hf : EffOk X F) (hg : o.guard = none) (hdst : o.dst = some d) (hN : Nat.blt d N = true) (h : ∀ r Th', R r Th' F → WTt P X ops rest N ((d, r) :: E) Th' (fun E' Th1 tr => K2 E' Th1 (⟨E, Th, F⟩ :: tr))) : WTt P X ops (o :: rest) N E Th K2 :=
  wtt_im hX ho hc hp hF hf hg (okDst_some hdst hN) (by intro r Th' hr; rw [putET_some hdst]; exact h r Th' hr)
theorem max_if (a b : Int) : (if b > a then b else a) = max a b := by
  rw [Int.max_def]; split <;> split <;> omega
theorem opt_max2 {x y : Operand} {ts : Array TypeId} {a b : Int} (hx : evTV E x = some (.v (.int .i64 a))) (hy : evTV E y = some (.v (.int .i64 b))) (o1 : okOpd P x = true) (o2 : okOpd P y = true) : OpT P X E Th (.call { callee := .builtin .max, args := #[x, y], argTypes := ts }) (.v (.int .i64 (max a b))) Th .no := by
  refine opt_max (l := [.int .i64 a, .int .i64 b]) (by simp [vsT, hx, hy]) (by simp [o1, o2]) rfl ?_ rfl
  rw [← max_if]; rfl
theorem opt_max3 {x y z : Operand} {ts : Array TypeId} {a b c : Int} (hx : evTV E x = some (.v (.int .i64 a))) (hy : evTV E y = some (.v (.int .i64 b))) (hz : evTV E z = some (.v (.int .i64 c))) (o1 : okOpd P x = true) (o2 : okOpd P y = true) (o3 : okOpd P z = true) : OpT P X E Th (.call { callee := .builtin .max, args := #[x, y, z], argTypes := ts }) (.v (.int .i64 (max (max a b) c))) Th .no := by
  refine opt_max (l := [.int .i64 a, .int .i64 b, .int .i64 c]) (by simp [vsT, hx, hy, hz]) (by simp [o1, o2, o3]) rfl ?_ rfl
  rw [← max_if, ← max_if]; rfl
theorem opt_as {y : TV} (h : OpT P X E Th op x Th' f) (e : x = y) : OpT P X E Th op y Th' f := by subst e; exact h
theorem opt_move_c {v : Value} (ok : flat1 v = true) : OpT P X E Th (.move (.const v)) (.v v) Th .no := by
  have h : ofVal v = .v v := by cases v <;> first | rfl | simp [flat1] at ok
  have := opt_move (P := P) (X := X) (E := E) (Th := Th) (x := .const v) rfl (by simp only [okOpd]; cases v <;> first | exact ok | simp [flat1] at ok)
  rw [h] at this; exact this
theorem opt_assign_c {v : Value} (ok : flat1 v = true) : OpT P X E Th (.assign (.const v)) (.v v) Th .no := by
  have h : ofVal v = .v v := by cases v <;> first | rfl | simp [flat1] at ok
  have := opt_assign (P := P) (X := X) (E := E) (Th := Th) (x := .const v) rfl (by simp only [okOpd]; cases v <;> first | exact ok | simp [flat1] at ok)
  rw [h] at this; exact this
theorem chk_pt {ops : Array Oper} {tr : List Rec} {j c : Nat} {oj : Oper} {r : Rec} {t : TypeId} {ag : Bool} {x : Operand} {i g off n : Nat} {e : TypeId} {cs : List TV} [hT : TyI P t ag n] (h1 : ops[j]? = some oj) (h2 : oj.op = .load t x) (h3 : tr[j]? = some r) (h4 : evTV r.E x = some (.pt i g off)) (h5 : okOpd P x = true) (h7 : Nat.blt 0 n = true)
    (h8 : ((part tr (min j c) (max j (c + 1))).all fun r => r.f.misses i off (off + n)) = true) (h9 : r.Th[i]? = some ⟨g, some (e, cs)⟩) (h10 : Nat.blt 0 cs.length = true) : ChkT P ops tr j c := .pt h1 h2 h3 h4 h5 hT.sz h7 h8 h9 h10
theorem opt_index_glob {t e : TypeId} {i : Operand} {m sz : Nat} {ag : Bool} {k : IntKind} {j : Int} {B : Blk} [hA : ArI P t m e] [hT : TyI P e ag sz] (hb : X.tb = some B) (hB : (B.cells.all flat1) = true) (hi : evTV E i = some (.v (.int k j))) (o1 : okOpd P (.global 0) = true) (o2 : okOpd P i = true) (h0 : 0 ≤ j) (hj : j < m) :
    OpT P X E Th (.indexAddr t (.global 0) i) (.fp false (B.cells.map .v) (j.toNat * sz)) Th .no :=
  opt_quiet (fun _ => .inl (by simp)) (by simp [Op.operands, o1, o2]) fun T G p hr => by
    obtain ⟨g1, g2, g3⟩ := hr.gl B hb
    refine ⟨.pointer (some ⟨0, 0 + j.toNat * sz, none⟩), ?_, ?_⟩
    · have e1 : evT T (.global 0) = .pointer (some ⟨0, 0, none⟩) := rfl
      simp [stepOp, e1, (hr.ev hi o2).flat_eq, indexAddrA, hA.ar, hT.sz, h0, hj]
    · refine .fp (vs := B.cells) (cells_all (b := 0) (e := B.elem) (ro := B.ro) g1 (by simp)) ?_ ⟨fun _ => g3, g2⟩
      have : ∀ l : List Value, (l.all flat1) = true → VRs G X.D p (l.map .v) l := by
        intro l
        induction l with
        | nil => intro _; exact .nil
        | cons a l ih => intro h; simp only [List.all_cons, Bool.and_eq_true] at h; exact .cons (.flat h.1) (ih h.2)
      exact this _ hB
theorem wct_tt_seq {x : Operand} {a b c : Code} (hok : okOpd P x = true) (hx : evTV E x = some (.v (.bool true))) (h : WCt P X mk (.seq a c) N E Th Q) : WCt P X mk (.seq (.cond x a b) c) N E Th Q := wct_ifb_seq hok hx (fun _ => h) (fun h => by cases h)
theorem wct_ff_seq {x : Operand} {a b c : Code} (hok : okOpd P x = true) (hx : evTV E x = some (.v (.bool false))) (h : WCt P X mk (.seq b c) N E Th Q) : WCt P X mk (.seq (.cond x a b) c) N E Th Q := wct_ifb_seq hok hx (fun h => by cases h) (fun _ => h)
theorem wct_tt {x : Operand} {a b : Code} (hok : okOpd P x = true) (hx : evTV E x = some (.v (.bool true))) (h : WCt P X mk a N E Th Q) : WCt P X mk (.cond x a b) N E Th Q := wct_ifb hok hx (fun _ => h) (fun h => by cases h)
theorem wct_ff {x : Operand} {a b : Code} (hok : okOpd P x = true) (hx : evTV E x = some (.v (.bool false))) (h : WCt P X mk b N E Th Q) : WCt P X mk (.cond x a b) N E Th Q := wct_ifb hok hx (fun h => by cases h) (fun _ => h)
theorem wct_region_seq {id : Nat} {l : List Oper} {c : Code} (hm : mk = .fn ∨ mk = .round) (h : WOt P X ⟨l⟩ l N E Th (fun E' Th' => WCt P X mk c N E' Th' Q)) : WCt P X mk (.seq (.region id ⟨l⟩ false) c) N E Th Q := wct_seq (wct_region hm h)
theorem wct_draw_seq {id : Nat} {l : List Oper} {c : Code} (hd : drawOk ⟨l⟩ = true) {u : List (Nat × Nat)} (hu : unord ⟨l⟩ = u) (h : WTt P X ⟨l⟩ l N E Th (fun E' Th' tr => ChkAll P ⟨l⟩ tr u ∧ WCt P X mk c N E' Th' Q)) : WCt P X mk (.seq (.region id ⟨l⟩ true) c) N E Th Q := wct_seq (wct_draw hd hu h)
theorem wct_block_sq {id : Nat} {a b d : Code} (h : WCt P X mk (.seq a b) N E Th (QBt id (QSt (fun E' Th' => WCt P X mk d N E' Th' Q) Q))) : WCt P X mk (.seq (.block id (.seq a b)) d) N E Th Q := wct_block_seq h
theorem wct_block_rg {id j : Nat} {l : Array Oper} {dr : Bool} {d : Code} (h : WCt P X mk (.region j l dr) N E Th (QBt id (QSt (fun E' Th' => WCt P X mk d N E' Th' Q) Q))) : WCt P X mk (.seq (.block id (.region j l dr)) d) N E Th Q := wct_block_seq h
theorem wct_block1 {id : Nat} {a b : Code} (h : WCt P X mk (.seq a b) N E Th (QBt id Q)) : WCt P X mk (.block id (.seq a b)) N E Th Q := wct_block h
theorem wct_block1r {id j : Nat} {l : Array Oper} {dr : Bool} (h : WCt P X mk (.region j l dr) N E Th (QBt id Q)) : WCt P X mk (.block id (.region j l dr)) N E Th Q := wct_block h
theorem wct_loop1 {id : Nat} {c : Code} {σ : Type} (I : σ → Prop) (F : σ → TEnv) (R : σ → List Root) (μ : σ → Nat) (s0 : σ) (hE : subET (F s0) E) (hT : Th = R s0) (h0 : I s0)
    (hstep : ∀ s, I s → WCt P X mk c N (F s) (R s) (QSt (LoopT I F R μ s) (QBt id Q))) : WCt P X mk (.block id (.loop c)) N E Th Q := wct_block (wct_loop I F R μ s0 hE hT h0 hstep)
theorem wct_loop2 {id : Nat} {c d : Code} {σ τ : Type} (I : σ → τ → Prop) (F : σ → τ → TEnv) (R : σ → τ → List Root) (μ : σ → τ → Nat) (s0 : σ) (t0 : τ) (hE : subET (F s0 t0) E) (hT : Th = R s0 t0) (h0 : I s0 t0)
    (hstep : ∀ s t, I s t → WCt P X mk c N (F s t) (R s t) (QSt (LoopT (fun q : σ × τ => I q.1 q.2) (fun q => F q.1 q.2) (fun q => R q.1 q.2) (fun q => μ q.1 q.2) (s, t)) (QBt id (QSt (fun E' Th' => WCt P X mk d N E' Th' Q) Q)))) : WCt P X mk (.seq (.block id (.loop c)) d) N E Th Q :=
  wct_loop_seq (fun q : σ × τ => I q.1 q.2) (fun q => F q.1 q.2) (fun q => R q.1 q.2) (fun q => μ q.1 q.2) (s0, t0) hE hT h0 fun s h => hstep s.1 s.2 h
theorem wct_loop12 {id : Nat} {c : Code} {σ τ : Type} (I : σ → τ → Prop) (F : σ → τ → TEnv) (R : σ → τ → List Root) (μ : σ → τ → Nat) (s0 : σ) (t0 : τ) (hE : subET (F s0 t0) E) (hT : Th = R s0 t0) (h0 : I s0 t0)
    (hstep : ∀ s t, I s t → WCt P X mk c N (F s t) (R s t) (QSt (LoopT (fun q : σ × τ => I q.1 q.2) (fun q => F q.1 q.2) (fun q => R q.1 q.2) (fun q => μ q.1 q.2) (s, t)) (QBt id Q))) : WCt P X mk (.block id (.loop c)) N E Th Q :=
  wct_loop1 (fun q : σ × τ => I q.1 q.2) (fun q => F q.1 q.2) (fun q => R q.1 q.2) (fun q => μ q.1 q.2) (s0, t0) hE hT h0 fun s h => hstep s.1 s.2 h
theorem wct_loop3 {id : Nat} {c d : Code} {σ τ υ : Type} (I : σ → τ → υ → Prop) (F : σ → τ → υ → TEnv) (R : σ → τ → υ → List Root) (μ : σ → τ → υ → Nat) (s0 : σ) (t0 : τ) (u0 : υ) (hE : subET (F s0 t0 u0) E) (hT : Th = R s0 t0 u0) (h0 : I s0 t0 u0)
    (hstep : ∀ s t u, I s t u → WCt P X mk c N (F s t u) (R s t u) (QSt (LoopT (fun q : σ × τ × υ => I q.1 q.2.1 q.2.2) (fun q => F q.1 q.2.1 q.2.2) (fun q => R q.1 q.2.1 q.2.2) (fun q => μ q.1 q.2.1 q.2.2) (s, t, u)) (QBt id (QSt (fun E' Th' => WCt P X mk d N E' Th' Q) Q)))) : WCt P X mk (.seq (.block id (.loop c)) d) N E Th Q :=
  wct_loop_seq (fun q : σ × τ × υ => I q.1 q.2.1 q.2.2) (fun q => F q.1 q.2.1 q.2.2) (fun q => R q.1 q.2.1 q.2.2) (fun q => μ q.1 q.2.1 q.2.2) (s0, t0, u0) hE hT h0 fun s h => hstep s.1 s.2.1 s.2.2 h
theorem wct_loop13 {id : Nat} {c : Code} {σ τ υ : Type} (I : σ → τ → υ → Prop) (F : σ → τ → υ → TEnv) (R : σ → τ → υ → List Root) (μ : σ → τ → υ → Nat) (s0 : σ) (t0 : τ) (u0 : υ) (hE : subET (F s0 t0 u0) E) (hT : Th = R s0 t0 u0) (h0 : I s0 t0 u0)
    (hstep : ∀ s t u, I s t u → WCt P X mk c N (F s t u) (R s t u) (QSt (LoopT (fun q : σ × τ × υ => I q.1 q.2.1 q.2.2) (fun q => F q.1 q.2.1 q.2.2) (fun q => R q.1 q.2.1 q.2.2) (fun q => μ q.1 q.2.1 q.2.2) (s, t, u)) (QBt id Q))) : WCt P X mk (.block id (.loop c)) N E Th Q :=
  wct_loop1 (fun q : σ × τ × υ => I q.1 q.2.1 q.2.2) (fun q => F q.1 q.2.1 q.2.2) (fun q => R q.1 q.2.1 q.2.2) (fun q => μ q.1 q.2.1 q.2.2) (s0, t0, u0) hE hT h0 fun s h => hstep s.1 s.2.1 s.2.2 h
theorem qst_wct {b : Code} {Q' : TPost} (h : WCt P X mk b N E Th Q) : QSt (fun E' Th' => WCt P X mk b N E' Th' Q) Q' .normal E Th := h
theorem qst_loop {σ : Type} {I : σ → Prop} {F : σ → TEnv} {R : σ → List Root} {μ : σ → Nat} {s : σ} {Q' : TPost} (h : LoopT I F R μ s E Th) : QSt (LoopT I F R μ s) Q' .normal E Th := h
theorem rnd {σ : Type} {I : σ → Prop} {F : σ → TEnv} {R : σ → List Root} {μ : σ → Nat} {s : σ} (s' : σ) (h1 : μ s' < μ s) (h2 : I s') (h3 : subET (F s') E) (h4 : Th = R s') : LoopT I F R μ s E Th := ⟨s', h1, h2, h3, h4⟩
end
end Go.Ab
namespace Go.Ab
structure Opd where
  kind : Int
  n : Int
  v : Int
  deriving DecidableEq, Inhabited
structure Inst where
  op : Int
  sub : Int
  n : Int
  d : Opd
  a : Opd
  b : Opd
  c : Opd
  deriving DecidableEq, Inhabited
structure Term where
  kind : Int
  sub : Int
  d : Opd
  a : Opd
  b : Opd
  to0 : Int
  to1 : Int
  deriving DecidableEq, Inhabited
structure Arr where
  name : ByteArray
  space : Int
  type : Int
  len : Int
structure Loop where
  head : Int
  reg : Int
  bound : Int
  deriving DecidableEq, Inhabited
structure Block where
  i : List Inst
  t : Term
structure Code where
  group : Int
  sub : Int
  regs : Int
  slots : Int
  params : Int
  arrays : List Arr
  loops : List Loop
  b : List Block
structure Live where
  in_ : List (List Int)
  out : List (List Int)
abbrev t32 (n : Int) : TV := .v (.int .i32 n)
theorem cl_agg {cs : List TV} (h : (cs.all fun c => match c with | .v _ => true | _ => false) = true) : Cl (.agg cs) := by
  refine .agg fun c hc => ?_
  have := List.all_eq_true.1 h c hc
  cases c <;> first | exact .v _ | cases this
instance : Enc Opd := ⟨3, fun o => .agg [ti o.kind, ti o.n, t32 o.v], default, fun _ => rfl, fun _ => cl_agg rfl, fun _ => rfl, by decide⟩
instance : Enc Inst := ⟨15, fun i => .agg [ti i.op, ti i.sub, ti i.n, ti i.d.kind, ti i.d.n, t32 i.d.v, ti i.a.kind, ti i.a.n, t32 i.a.v, ti i.b.kind, ti i.b.n, t32 i.b.v, ti i.c.kind, ti i.c.n, t32 i.c.v], default, fun _ => rfl, fun _ => cl_agg rfl, fun _ => rfl, by decide⟩
instance : Enc Term := ⟨13, fun t => .agg [ti t.kind, ti t.sub, ti t.d.kind, ti t.d.n, t32 t.d.v, ti t.a.kind, ti t.a.n, t32 t.a.v, ti t.b.kind, ti t.b.n, t32 t.b.v, ti t.to0, ti t.to1], default, fun _ => rfl, fun _ => cl_agg rfl, fun _ => rfl, by decide⟩
instance : Enc Arr := ⟨4, fun a => .agg [.v (.string a.name), ti a.space, ti a.type, ti a.len], ⟨ByteArray.empty, 0, 0, 0⟩, fun _ => rfl, fun _ => cl_agg rfl, fun _ => rfl, by decide⟩
instance : Enc Loop := ⟨3, fun l => .agg [ti l.head, ti l.reg, ti l.bound], default, fun _ => rfl, fun _ => cl_agg rfl, fun _ => rfl, by decide⟩
instance : Enc Block := ⟨14, fun b => .agg [lst false b.i, ti b.t.kind, ti b.t.sub, ti b.t.d.kind, ti b.t.d.n, t32 b.t.d.v, ti b.t.a.kind, ti b.t.a.n, t32 b.t.a.v, ti b.t.b.kind, ti b.t.b.n, t32 b.t.b.v, ti b.t.to0, ti b.t.to1], ⟨[], default⟩, fun _ => rfl, fun b => by
  refine .agg fun c hc => ?_
  simp only [List.mem_cons, List.not_mem_nil, or_false] at hc
  rcases hc with rfl | rfl | rfl | rfl | rfl | rfl | rfl | rfl | rfl | rfl | rfl | rfl | rfl | rfl <;> first | exact lst_cl _ | exact .v _, fun _ => rfl, by decide⟩
instance : Enc Code := ⟨8, fun c => .agg [ti c.group, ti c.sub, ti c.regs, ti c.slots, ti c.params, lst false c.arrays, lst false c.loops, lst false c.b], ⟨0, 0, 0, 0, 0, [], [], []⟩, fun _ => rfl, fun b => by
  refine .agg fun c hc => ?_
  simp only [List.mem_cons, List.not_mem_nil, or_false] at hc
  rcases hc with rfl | rfl | rfl | rfl | rfl | rfl | rfl | rfl <;> first | exact lst_cl _ | exact .v _, fun _ => rfl, by decide⟩
instance : Enc Live := ⟨2, fun x => .agg [lst false x.in_, lst false x.out], ⟨[], []⟩, fun _ => rfl, fun b => by
  refine .agg fun c hc => ?_
  simp only [List.mem_cons, List.not_mem_nil, or_false] at hc
  rcases hc with rfl | rfl <;> exact lst_cl _, fun _ => rfl, by decide⟩

def opdReg (o : Opd) : Int := if o.kind = 2 then o.n else -1
def dfn (i : Inst) : Int := opdReg i.d
def dfnT (t : Term) : Int := opdReg t.d
def succT (t : Term) : List Int := if t.kind = 5 then [] else if t.kind = 2 ∧ t.to0 ≠ t.to1 then [t.to0, t.to1] else [t.to0]
def addI (xs : List Int) (n : Int) : List Int := if n ∈ xs then xs else xs.takeWhile (· < n) ++ n :: xs.dropWhile (· < n)
def unionI (xs ys : List Int) : List Int := ys.foldl addI xs
def woI (xs : List Int) (n : Int) : List Int := xs.filter (· ≠ n)
def regsOf (l : List Opd) : List Int := l.foldl (fun acc o => if o.kind = 2 then addI acc o.n else acc) []
def usesI (i : Inst) : List Int := regsOf [i.a, i.b, i.c]
def usesT (t : Term) : List Int := regsOf [t.a, t.b]
theorem addI_len (xs : List Int) (n : Int) : (addI xs n).length ≤ xs.length + 1 := by
  unfold addI
  split
  · omega
  · rw [List.length_append, List.length_cons]
    have h := congrArg List.length (List.takeWhile_append_dropWhile (p := fun x => decide (x < n)) (l := xs))
    rw [List.length_append] at h
    omega
theorem unionI_len : ∀ (ys xs : List Int), (unionI xs ys).length ≤ xs.length + ys.length
  | [], xs => by simp [unionI]
  | y :: ys, xs => by
    have := unionI_len ys (addI xs y)
    have := addI_len xs y
    simp only [unionI, List.foldl_cons, List.length_cons] at *
    omega
theorem woI_len (xs : List Int) (n : Int) : (woI xs n).length ≤ xs.length := List.length_filter_le _ _
theorem foldl_regs_len : ∀ (l : List Opd) (acc : List Int), (l.foldl (fun acc o => if o.kind = 2 then addI acc o.n else acc) acc).length ≤ acc.length + l.length
  | [], acc => by simp
  | o :: l, acc => by
    rw [List.foldl_cons, List.length_cons]
    have h := foldl_regs_len l (if o.kind = 2 then addI acc o.n else acc)
    have h2 : (if o.kind = 2 then addI acc o.n else acc).length ≤ acc.length + 1 := by
      split
      · exact addI_len _ _
      · omega
    omega
theorem regsOf_len (l : List Opd) : (regsOf l).length ≤ l.length := by have := foldl_regs_len l []; simpa [regsOf] using this
theorem usesI_len (i : Inst) : (usesI i).length ≤ 3 := regsOf_len _
theorem usesT_len (t : Term) : (usesT t).length ≤ 2 := regsOf_len _
theorem succT_len (t : Term) : (succT t).length ≤ 2 := by
  unfold succT; split
  · simp
  · split <;> simp
theorem while_take {p : Int → Bool} : ∀ {xs : List Int} {k : Nat}, (∀ x ∈ xs.take k, p x = true) → (k = xs.length ∨ ∃ _ : k < xs.length, p (at' xs k) = false) → xs.takeWhile p = xs.take k ∧ xs.dropWhile p = xs.drop k
  | [], k, _, _ => by simp
  | x :: xs, 0, _, h => by
    rcases h with h | ⟨_, h⟩
    · simp at h
    · simp [at'] at h; simp [List.takeWhile_cons, List.dropWhile_cons, h]
  | x :: xs, k + 1, h1, h2 => by
    have hx : p x = true := h1 x (by simp)
    obtain ⟨g1, g2⟩ := while_take (xs := xs) (k := k) (fun y hy => h1 y (by simp [hy])) (by
      rcases h2 with h | ⟨h, h'⟩
      · exact .inl (by simpa using h)
      · exact .inr ⟨by simpa using h, by simpa [at'] using h'⟩)
    simp [List.takeWhile_cons, List.dropWhile_cons, hx, g1, g2]
def beforeI (i : Inst) (after : List Int) : List Int := unionI (woI after (dfn i)) (usesI i)
def atI (is : List Inst) (out : List Int) (k : Nat) : List Int := (is.drop k).foldr beforeI out
def succIn (t : Term) (in_ : List (List Int)) : List Int := (succT t).foldl (fun l s => unionI l (at' in_ s.toNat)) []
def neededI (t : Term) (in_ : List (List Int)) : List Int := unionI (woI (succIn t in_) (dfnT t)) (usesT t)
theorem beforeI_len (i : Inst) (l : List Int) : (beforeI i l).length ≤ l.length + 3 := by
  have h1 := unionI_len (usesI i) (woI l (dfn i))
  have h2 := woI_len l (dfn i)
  have h3 := usesI_len i
  unfold beforeI; omega
def reachS (c : Code) (out : List Bool) (b : Nat) : List Bool := (succT (at' c.b b).t).foldl (fun o s => if at' o b then o.set s.toNat true else o) out
def reachP (c : Code) (out : List Bool) : List Bool := (List.range c.b.length).foldl (reachS c) out
def reachL (c : Code) : List Bool := (List.range c.b.length).foldl (fun o _ => reachP c o) ((List.replicate c.b.length false).set 0 true)
theorem reachS_len (c : Code) (out : List Bool) (b : Nat) : (reachS c out b).length = out.length := by
  unfold reachS
  generalize succT (at' c.b b).t = l
  induction l generalizing out with
  | nil => rfl
  | cons s l ih => rw [List.foldl_cons, ih]; split <;> simp
theorem foldl_len {α β : Type} {f : List β → α → List β} (h : ∀ o a, (f o a).length = o.length) : ∀ (l : List α) (o : List β), (l.foldl f o).length = o.length
  | [], o => rfl
  | a :: l, o => by rw [List.foldl_cons, foldl_len h l, h]
theorem reachP_len (c : Code) (out : List Bool) : (reachP c out).length = out.length := foldl_len (reachS_len c) _ _
theorem reachL_len (c : Code) : (reachL c).length = c.b.length := by
  unfold reachL
  rw [foldl_len (fun o _ => reachP_len c o)]; simp
def LiOk (regs : Int) (l : List Int) : Prop := (∀ x ∈ l, 0 ≤ x ∧ x < regs) ∧ l.Pairwise (· < ·)
instance (regs : Int) (l : List Int) : Decidable (LiOk regs l) := by unfold LiOk; infer_instance
theorem at_take {α : Type} [Enc α] {xs : List α} {k j : Nat} (h : j < k) : at' (xs.take k) j = at' xs j := by
  unfold at'
  rw [List.getD_eq_getElem?_getD, List.getD_eq_getElem?_getD, List.getElem?_take, if_pos h]
theorem take_succ {α : Type} [Enc α] {xs : List α} {k : Nat} (h : k < xs.length) : xs.take (k + 1) = xs.take k ++ [at' xs k] := by
  rw [List.take_add_one, List.getElem?_eq_getElem h]; simp [at', List.getD_eq_getElem?_getD, h]
theorem pw_last {l : List Int} (h : l.Pairwise (· < ·)) {n : Int} (hn : l = [] ∨ at' l (l.length - 1) < n) : ∀ x ∈ l, x < n := by
  intro x hx
  rcases hn with rfl | hn
  · simp at hx
  · obtain ⟨i, hi, rfl⟩ := List.mem_iff_getElem.1 hx
    have hl : l.length - 1 < l.length := by omega
    have e : at' l (l.length - 1) = l[l.length - 1] := by simp [at', hl]
    rw [e] at hn
    rcases Nat.lt_or_ge i (l.length - 1) with h1 | h1
    · have := List.pairwise_iff_getElem.1 h i (l.length - 1) hi hl h1
      omega
    · have : i = l.length - 1 := by omega
      subst this; exact hn
theorem LiOk.snoc {regs : Int} {xs : List Int} {k : Nat} (h : LiOk regs (xs.take k)) (hk : k < xs.length) (h0 : 0 ≤ at' xs k ∧ at' xs k < regs) (h1 : k = 0 ∨ at' xs (k - 1) < at' xs k) : LiOk regs (xs.take (k + 1)) := by
  rw [take_succ hk]
  refine ⟨fun x hx => ?_, List.pairwise_append.2 ⟨h.2, by simp, ?_⟩⟩
  · rcases List.mem_append.1 hx with hx | hx
    · exact h.1 x hx
    · simp at hx; subst hx; exact h0
  · intro x hx y hy
    simp at hy; subst hy
    refine pw_last h.2 ?_ x hx
    have hl : (xs.take k).length = k := by simp; omega
    rcases h1 with h1 | h1
    · left; subst h1; simp
    · rcases Nat.eq_zero_or_pos k with h2 | h2
      · left; subst h2; simp
      · right; rw [hl, at_take (by omega)]; exact h1
theorem LiOk.bad {regs : Int} {xs : List Int} {k : Nat} (hk : k < xs.length) (h : ¬ (0 ≤ at' xs k ∧ at' xs k < regs) ∨ (0 < k ∧ ¬ at' xs (k - 1) < at' xs k)) : ¬ LiOk regs xs := by
  rintro ⟨h1, h2⟩
  rcases h with h | ⟨h3, h⟩
  · exact h (h1 _ (by simp [at', hk]))
  · apply h
    have hk1 : k - 1 < xs.length := by omega
    have := List.pairwise_iff_getElem.1 h2 (k - 1) k hk1 hk (by omega)
    simpa [at', hk, hk1] using this
theorem inc_len : ∀ (l : List Int) (a r : Int), l.Pairwise (· < ·) → (∀ x ∈ l, a ≤ x ∧ x < r) → (l.length : Int) ≤ max 0 (r - a)
  | [], a, r, _, _ => by simp; omega
  | x :: l, a, r, h, hx => by
    have h1 := inc_len l (x + 1) r (List.pairwise_cons.1 h).2 fun y hy => ⟨by have := (List.pairwise_cons.1 h).1 y hy; omega, (hx y (by simp [hy])).2⟩
    have h2 := hx x (by simp)
    simp only [List.length_cons]; omega
theorem LiOk.len {regs : Int} {l : List Int} (h : LiOk regs l) (hr : regs ≤ 256) : l.length ≤ 256 := by
  have := inc_len l 0 regs h.2 h.1
  omega
def withI (l : List Int) (n : Int) : List Int := if n < 0 then l else unionI l [n]
def ClosedI (c : Code) (x : Live) : Prop := x.in_.length = c.b.length ∧ x.out.length = c.b.length ∧ (∀ b, b < c.b.length → LiOk c.regs (at' x.in_ b) ∧ LiOk c.regs (at' x.out b)) ∧
  ∀ b, b < c.b.length → at' (reachL c) b = true → (∀ r ∈ neededI (at' c.b b).t x.in_, r ∈ at' x.out b) ∧ ∀ r ∈ atI (at' c.b b).i (at' x.out b) 0, r ∈ at' x.in_ b
instance (c : Code) (x : Live) : Decidable (ClosedI c x) := by unfold ClosedI; infer_instance
def pressB (c : Code) (x : Live) (m : Int) (b : Nat) : Int :=
  if at' (reachL c) b = true then
    if 0 ≤ dfnT (at' c.b b).t then max ((List.range (at' c.b b).i.length).foldl (fun m i => max m ((withI (atI (at' c.b b).i (at' x.out b) (i + 1)) (dfn (at' (at' c.b b).i i))).length : Int)) (max (max m ((at' x.in_ b).length : Int)) ((at' x.out b).length : Int))) ((withI (at' x.in_ (at' c.b b).t.to0.toNat) (dfnT (at' c.b b).t)).length : Int)
    else (List.range (at' c.b b).i.length).foldl (fun m i => max m ((withI (atI (at' c.b b).i (at' x.out b) (i + 1)) (dfn (at' (at' c.b b).i i))).length : Int)) (max (max m ((at' x.in_ b).length : Int)) ((at' x.out b).length : Int))
  else m
def press (c : Code) (x : Live) : Int := (List.range c.b.length).foldl (pressB c x) 0
structure Fit (c : Code) : Prop where
  nb : 0 < c.b.length ∧ c.b.length ≤ 2 ^ 16
  ni : ∀ b ∈ c.b, b.i.length ≤ 2 ^ 16
  to : ∀ b ∈ c.b, ∀ s ∈ succT b.t, 0 ≤ s ∧ s < c.b.length
  rg : 0 ≤ c.regs ∧ c.regs ≤ 256
  rd : ∀ b ∈ c.b, ∀ i ∈ b.i, dfn i < c.regs ∧ (∀ r ∈ usesI i, 0 ≤ r ∧ r < c.regs) ∧ (i.d.kind = 2 → 0 ≤ i.d.n)
  rt : ∀ b ∈ c.b, dfnT b.t < c.regs ∧ (∀ r ∈ usesT b.t, 0 ≤ r ∧ r < c.regs) ∧ (b.t.d.kind = 2 → 0 ≤ b.t.d.n) ∧ (b.t.d.kind = 2 → 0 ≤ b.t.to0 ∧ b.t.to0 < c.b.length)
end Go.Ab
namespace Go.Ab
theorem mem_addI {xs : List Int} {n r : Int} : r ∈ addI xs n ↔ r ∈ xs ∨ r = n := by
  unfold addI
  split
  · rename_i h
    constructor
    · exact .inl
    · rintro (h1 | rfl)
      · exact h1
      · exact h
  · have h := List.takeWhile_append_dropWhile (p := fun x => decide (x < n)) (l := xs)
    rw [List.mem_append, List.mem_cons]
    constructor
    · rintro (h1 | h1 | h1)
      · exact .inl (by rw [← h]; exact List.mem_append_left _ h1)
      · exact .inr h1
      · exact .inl (by rw [← h]; exact List.mem_append_right _ h1)
    · rintro (h1 | h1)
      · rw [← h, List.mem_append] at h1
        rcases h1 with h1 | h1
        · exact .inl h1
        · exact .inr (.inr h1)
      · exact .inr (.inl h1)
theorem pw_addI {xs : List Int} (h : xs.Pairwise (· < ·)) (n : Int) : (addI xs n).Pairwise (· < ·) := by
  unfold addI
  split
  · exact h
  · rename_i hn
    have key : ∀ (l : List Int), l.Pairwise (· < ·) → n ∉ l → (l.takeWhile (fun x => decide (x < n)) ++ n :: l.dropWhile (fun x => decide (x < n))).Pairwise (· < ·) := by
      intro l
      induction l with
      | nil => intro _ _; simp
      | cons x l ih =>
        intro hp hm
        have hp' := List.pairwise_cons.1 hp
        by_cases hx : x < n
        · rw [List.takeWhile_cons_of_pos (by simpa using hx), List.dropWhile_cons_of_pos (by simpa using hx), List.cons_append, List.pairwise_cons]
          refine ⟨fun y hy => ?_, ih hp'.2 (fun h => hm (by simp [h]))⟩
          rw [List.mem_append, List.mem_cons] at hy
          rcases hy with hy | rfl | hy
          · exact hp'.1 y ((List.takeWhile_sublist _).mem hy)
          · exact hx
          · exact hp'.1 y ((List.dropWhile_sublist _).mem hy)
        · rw [List.takeWhile_cons_of_neg (by simpa using hx), List.dropWhile_cons_of_neg (by simpa using hx), List.nil_append, List.pairwise_cons]
          refine ⟨fun y hy => ?_, hp⟩
          have hxn : n < x := by
            have : x ≠ n := by rintro rfl; exact hm (by simp)
            omega
          rcases List.mem_cons.1 hy with rfl | hy
          · exact hxn
          · have := hp'.1 y hy; omega
    exact key xs h hn
theorem mem_unionI : ∀ {ys xs : List Int} {r : Int}, r ∈ unionI xs ys ↔ r ∈ xs ∨ r ∈ ys
  | [], xs, r => by simp [unionI]
  | y :: ys, xs, r => by
    show r ∈ unionI (addI xs y) ys ↔ _
    rw [mem_unionI, mem_addI, List.mem_cons]
    constructor
    · rintro ((h | h) | h)
      · exact .inl h
      · exact .inr (.inl h)
      · exact .inr (.inr h)
    · rintro (h | h | h)
      · exact .inl (.inl h)
      · exact .inl (.inr h)
      · exact .inr h
theorem pw_unionI : ∀ {ys xs : List Int}, xs.Pairwise (· < ·) → (unionI xs ys).Pairwise (· < ·)
  | [], xs, h => h
  | y :: ys, xs, h => pw_unionI (ys := ys) (pw_addI h y)
theorem mem_woI {xs : List Int} {n r : Int} : r ∈ woI xs n ↔ r ∈ xs ∧ r ≠ n := by simp [woI]
theorem pw_woI {xs : List Int} (h : xs.Pairwise (· < ·)) (n : Int) : (woI xs n).Pairwise (· < ·) := h.filter _
theorem regs_mem : ∀ {l : List Opd} {acc : List Int} {r : Int}, r ∈ l.foldl (fun acc o => if o.kind = 2 then addI acc o.n else acc) acc ↔ r ∈ acc ∨ ∃ o ∈ l, o.kind = 2 ∧ o.n = r
  | [], acc, r => by simp
  | o :: l, acc, r => by
    rw [List.foldl_cons, regs_mem]
    by_cases h : o.kind = 2
    · rw [if_pos h, mem_addI]
      simp only [List.mem_cons, exists_eq_or_imp, h, true_and]
      constructor
      · rintro ((h1 | h1) | h1)
        · exact .inl h1
        · exact .inr (.inl h1.symm)
        · exact .inr (.inr h1)
      · rintro (h1 | h1 | h1)
        · exact .inl (.inl h1)
        · exact .inl (.inr h1.symm)
        · exact .inr h1
    · rw [if_neg h]
      simp only [List.mem_cons, exists_eq_or_imp, h, false_and, false_or]
theorem mem_regsOf {l : List Opd} {r : Int} : r ∈ regsOf l ↔ ∃ o ∈ l, o.kind = 2 ∧ o.n = r := by
  unfold regsOf; rw [regs_mem]; simp
theorem pw_regs : ∀ {l : List Opd} {acc : List Int}, acc.Pairwise (· < ·) → (l.foldl (fun acc o => if o.kind = 2 then addI acc o.n else acc) acc).Pairwise (· < ·)
  | [], acc, h => h
  | o :: l, acc, h => by
    rw [List.foldl_cons]
    refine pw_regs ?_
    split
    · exact pw_addI h _
    · exact h
theorem mem_beforeI {i : Inst} {l : List Int} {r : Int} : r ∈ beforeI i l ↔ (r ∈ l ∧ r ≠ dfn i) ∨ r ∈ usesI i := by unfold beforeI; rw [mem_unionI, mem_woI]
theorem pw_beforeI {i : Inst} {l : List Int} (h : l.Pairwise (· < ·)) : (beforeI i l).Pairwise (· < ·) := pw_unionI (pw_woI h _)
theorem beforeI_mono {i : Inst} {l m : List Int} (h : ∀ r ∈ l, r ∈ m) : ∀ r ∈ beforeI i l, r ∈ beforeI i m := by
  intro r hr
  rw [mem_beforeI] at hr ⊢
  exact hr.imp (fun h1 => ⟨h r h1.1, h1.2⟩) id
theorem foldr_before_pw {is : List Inst} {l : List Int} (h : l.Pairwise (· < ·)) : (is.foldr beforeI l).Pairwise (· < ·) := by
  induction is with
  | nil => exact h
  | cons i is ih => exact pw_beforeI ih
theorem foldr_before_mono {is : List Inst} {l m : List Int} (h : ∀ r ∈ l, r ∈ m) : ∀ r ∈ is.foldr beforeI l, r ∈ is.foldr beforeI m := by
  induction is with
  | nil => exact h
  | cons i is ih => exact beforeI_mono ih
theorem pw_atI {is : List Inst} {l : List Int} {k : Nat} (h : l.Pairwise (· < ·)) : (atI is l k).Pairwise (· < ·) := foldr_before_pw h
theorem atI_mono {is : List Inst} {l m : List Int} {k : Nat} (h : ∀ r ∈ l, r ∈ m) : ∀ r ∈ atI is l k, r ∈ atI is m k := foldr_before_mono h
theorem foldr_before_rg {regs : Int} {is : List Inst} {l : List Int} (hu : ∀ i ∈ is, ∀ r ∈ usesI i, 0 ≤ r ∧ r < regs) (h : ∀ r ∈ l, 0 ≤ r ∧ r < regs) : ∀ r ∈ is.foldr beforeI l, 0 ≤ r ∧ r < regs := by
  induction is with
  | nil => exact h
  | cons i is ih =>
    intro r hr
    rw [List.foldr_cons, mem_beforeI] at hr
    rcases hr with hr | hr
    · exact ih (fun j hj => hu j (by simp [hj])) r hr.1
    · exact hu i (by simp) r hr
theorem LiOk.at {regs : Int} {is : List Inst} {l : List Int} {k : Nat} (h : LiOk regs l) (hu : ∀ i ∈ is, ∀ r ∈ usesI i, 0 ≤ r ∧ r < regs) : LiOk regs (atI is l k) :=
  ⟨foldr_before_rg (fun i hi => hu i (List.mem_of_mem_drop hi)) h.1, pw_atI h.2⟩
theorem succIn_mem : ∀ {ss : List Int} {in_ : List (List Int)} {acc : List Int} {r : Int}, r ∈ ss.foldl (fun l s => unionI l (at' in_ s.toNat)) acc ↔ r ∈ acc ∨ ∃ s ∈ ss, r ∈ at' in_ s.toNat
  | [], in_, acc, r => by simp
  | s :: ss, in_, acc, r => by
    rw [List.foldl_cons, succIn_mem, mem_unionI]
    simp only [List.mem_cons, exists_eq_or_imp]
    constructor
    · rintro ((h | h) | h)
      · exact .inl h
      · exact .inr (.inl h)
      · exact .inr (.inr h)
    · rintro (h | h | h)
      · exact .inl (.inl h)
      · exact .inl (.inr h)
      · exact .inr h
theorem succIn_pw : ∀ {ss : List Int} {in_ : List (List Int)} {acc : List Int}, acc.Pairwise (· < ·) → (ss.foldl (fun l s => unionI l (at' in_ s.toNat)) acc).Pairwise (· < ·)
  | [], _, _, h => h
  | s :: ss, in_, acc, h => by rw [List.foldl_cons]; exact succIn_pw (pw_unionI h)
theorem mem_neededI {t : Term} {in_ : List (List Int)} {r : Int} : r ∈ neededI t in_ ↔ ((∃ s ∈ succT t, r ∈ at' in_ s.toNat) ∧ r ≠ dfnT t) ∨ r ∈ usesT t := by
  unfold neededI succIn
  rw [mem_unionI, mem_woI, succIn_mem]
  simp
theorem pw_neededI (t : Term) (in_ : List (List Int)) : (neededI t in_).Pairwise (· < ·) := pw_unionI (pw_woI (succIn_pw List.Pairwise.nil) _)
theorem neededI_mono {t : Term} {in_ in2 : List (List Int)} (h : ∀ s ∈ succT t, ∀ r ∈ at' in_ s.toNat, r ∈ at' in2 s.toNat) : ∀ r ∈ neededI t in_, r ∈ neededI t in2 := by
  intro r hr
  rw [mem_neededI] at hr ⊢
  exact hr.imp (fun ⟨⟨s, h1, h2⟩, h3⟩ => ⟨⟨s, h1, h s h1 r h2⟩, h3⟩) id
theorem LiOk.needed {regs : Int} {t : Term} {in_ : List (List Int)} (h : ∀ s ∈ succT t, LiOk regs (at' in_ s.toNat)) (hu : ∀ r ∈ usesT t, 0 ≤ r ∧ r < regs) : LiOk regs (neededI t in_) := by
  refine ⟨fun r hr => ?_, pw_neededI _ _⟩
  rw [mem_neededI] at hr
  rcases hr with ⟨⟨s, h1, h2⟩, _⟩ | hr
  · exact (h s h1).1 r h2
  · exact hu r hr
theorem sub_len {xs ys : List Int} (hx : xs.Pairwise (· < ·)) (hy : ys.Pairwise (· < ·)) (h : ∀ r ∈ xs, r ∈ ys) : xs.length ≤ ys.length := by
  induction xs generalizing ys with
  | nil => simp
  | cons x xs ih =>
    have hx' := List.pairwise_cons.1 hx
    have hm := h x (by simp)
    have h1 : (ys.erase x).length = ys.length - 1 := List.length_erase_of_mem hm
    have h2 := ih hx'.2 (hy.erase x) fun r hr => by
      have hne : r ≠ x := by have := hx'.1 r hr; omega
      exact (List.mem_erase_of_ne hne).2 (h r (by simp [hr]))
    have h3 : 0 < ys.length := List.length_pos_of_mem hm
    simp only [List.length_cons]; omega
theorem ext_pw : ∀ {xs ys : List Int}, xs.Pairwise (· < ·) → ys.Pairwise (· < ·) → (∀ r, r ∈ xs ↔ r ∈ ys) → xs = ys
  | [], [], _, _, _ => rfl
  | [], y :: ys, _, _, h => by have := (h y).2 (by simp); simp at this
  | x :: xs, [], _, _, h => by have := (h x).1 (by simp); simp at this
  | x :: xs, y :: ys, hx, hy, h => by
    have hx' := List.pairwise_cons.1 hx
    have hy' := List.pairwise_cons.1 hy
    have e : x = y := by
      rcases List.mem_cons.1 ((h x).1 (by simp)) with h1 | h1
      · exact h1
      · rcases List.mem_cons.1 ((h y).2 (by simp)) with h2 | h2
        · exact h2.symm
        · have := hx'.1 y h2; have := hy'.1 x h1; omega
    subst e
    congr 1
    refine ext_pw hx'.2 hy'.2 fun r => ?_
    constructor
    · intro hr
      have h3 := hx'.1 r hr
      rcases List.mem_cons.1 ((h r).1 (by simp [hr])) with h4 | h4
      · omega
      · exact h4
    · intro hr
      have h3 := hy'.1 r hr
      rcases List.mem_cons.1 ((h r).2 (by simp [hr])) with h4 | h4
      · omega
      · exact h4
theorem eq_of_sub {xs ys : List Int} (hx : xs.Pairwise (· < ·)) (hy : ys.Pairwise (· < ·)) (h : ∀ r ∈ xs, r ∈ ys) (hl : ys.length ≤ xs.length) : xs = ys := by
  refine ext_pw hx hy fun r => ⟨h r, fun hr => ?_⟩
  by_cases hm : r ∈ xs
  · exact hm
  · exfalso
    have h1 := sub_len (xs := addI xs r) (pw_addI hx r) hy fun q hq => by
      rw [mem_addI] at hq
      rcases hq with hq | rfl
      · exact h q hq
      · exact hr
    have h2 : (addI xs r).length = xs.length + 1 := by
      unfold addI
      rw [if_neg hm, List.length_append, List.length_cons]
      have h := congrArg List.length (List.takeWhile_append_dropWhile (p := fun x => decide (x < r)) (l := xs))
      rw [List.length_append] at h
      omega
    omega

def Clo (c : Code) (x : Live) : Prop := ∀ b, b < c.b.length → at' (reachL c) b = true → (∀ r ∈ neededI (at' c.b b).t x.in_, r ∈ at' x.out b) ∧ ∀ r ∈ atI (at' c.b b).i (at' x.out b) 0, r ∈ at' x.in_ b
structure Least (c : Code) (x : Live) : Prop where
  li : x.in_.length = c.b.length
  lo : x.out.length = c.b.length
  ok : ∀ b, b < c.b.length → LiOk c.regs (at' x.in_ b) ∧ LiOk c.regs (at' x.out b)
  un : ∀ b, b < c.b.length → at' (reachL c) b = false → at' x.in_ b = [] ∧ at' x.out b = []
  fx : ∀ b, b < c.b.length → at' (reachL c) b = true → at' x.out b = neededI (at' c.b b).t x.in_ ∧ at' x.in_ b = atI (at' c.b b).i (at' x.out b) 0
  le : ∀ y, Clo c y → ∀ b, b < c.b.length → (∀ r ∈ at' x.in_ b, r ∈ at' y.in_ b) ∧ ∀ r ∈ at' x.out b, r ∈ at' y.out b
theorem Least.clo {c : Code} {x : Live} (h : Least c x) : Clo c x := fun b hb hr => by
  obtain ⟨h1, h2⟩ := h.fx b hb hr
  exact ⟨fun r hr => by rw [h1]; exact hr, fun r hr => by rw [h2]; exact hr⟩
theorem ext_at {α : Type} [Enc α] {xs ys : List α} (hl : xs.length = ys.length) (h : ∀ b, b < xs.length → at' xs b = at' ys b) : xs = ys := by
  apply List.ext_getElem hl
  intro i h1 h2
  have := h i h1
  simpa [at', h1, h2] using this
theorem Least.eq {c : Code} {x y : Live} (h : Least c x) (k : Least c y) : x = y := by
  obtain ⟨xi, xo⟩ := x
  obtain ⟨yi, yo⟩ := y
  have hi : xi = yi := ext_at (h.li.trans k.li.symm) fun b hb => by
    have hb' : b < c.b.length := by rw [← h.li]; exact hb
    exact ext_pw (h.ok b hb').1.2 (k.ok b hb').1.2 fun r => ⟨(h.le _ k.clo b hb').1 r, (k.le _ h.clo b hb').1 r⟩
  have ho : xo = yo := ext_at (h.lo.trans k.lo.symm) fun b hb => by
    have hb' : b < c.b.length := by rw [← h.lo]; exact hb
    exact ext_pw (h.ok b hb').2.2 (k.ok b hb').2.2 fun r => ⟨(h.le _ k.clo b hb').2 r, (k.le _ h.clo b hb').2 r⟩
  rw [hi, ho]
structure Way (c : Code) (x : Live) : Prop where
  li : x.in_.length = c.b.length
  lo : x.out.length = c.b.length
  ok : ∀ b, b < c.b.length → LiOk c.regs (at' x.in_ b) ∧ LiOk c.regs (at' x.out b)
  un : ∀ b, b < c.b.length → at' (reachL c) b = false → at' x.in_ b = [] ∧ at' x.out b = []
  up : ∀ b, b < c.b.length → at' (reachL c) b = true → (∀ r ∈ at' x.out b, r ∈ neededI (at' c.b b).t x.in_) ∧ ∀ r ∈ at' x.in_ b, r ∈ atI (at' c.b b).i (at' x.out b) 0
  le : ∀ y, Clo c y → ∀ b, b < c.b.length → (∀ r ∈ at' x.in_ b, r ∈ at' y.in_ b) ∧ ∀ r ∈ at' x.out b, r ∈ at' y.out b
theorem at_rep {α : Type} [Enc α] {n k : Nat} {a : α} (h : k < n) : at' (List.replicate n a) k = a := by simp [at', h]
theorem Way.start (c : Code) : Way c ⟨List.replicate c.b.length [], List.replicate c.b.length []⟩ := by
  refine ⟨by simp, by simp, fun b hb => ?_, fun b hb _ => ⟨at_rep hb, at_rep hb⟩, fun b hb _ => ?_, fun y _ b hb => ?_⟩
  · rw [at_rep hb]; exact ⟨⟨by simp, List.Pairwise.nil⟩, ⟨by simp, List.Pairwise.nil⟩⟩
  · rw [at_rep hb]; simp
  · rw [at_rep hb]; simp
theorem at_set {α : Type} [Enc α] {xs : List α} {k j : Nat} {a : α} (hk : k < xs.length) : at' (xs.set k a) j = if j = k then a else at' xs j := by
  unfold at'
  rw [List.getD_eq_getElem?_getD, List.getD_eq_getElem?_getD, List.getElem?_set]
  by_cases h : k = j
  · subst h; simp [hk]
  · rw [if_neg h, if_neg (Ne.symm h)]
def oneB (c : Code) (x : Live) (b : Nat) : Live := ⟨x.in_.set b (atI (at' c.b b).i (neededI (at' c.b b).t x.in_) 0), x.out.set b (neededI (at' c.b b).t x.in_)⟩
theorem Way.one {c : Code} {x : Live} {b : Nat} (hf : Fit c) (h : Way c x) (hb : b < c.b.length) (hr : at' (reachL c) b = true) : Way c (oneB c x b) ∧ (∀ r ∈ at' x.out b, r ∈ neededI (at' c.b b).t x.in_) ∧ ∀ r ∈ at' x.in_ b, r ∈ atI (at' c.b b).i (neededI (at' c.b b).t x.in_) 0 := by
  have hmB : at' c.b b ∈ c.b := by simp [at', hb]
  have hto : ∀ s ∈ succT (at' c.b b).t, s.toNat < c.b.length := fun s hs => by have := hf.to _ hmB s hs; omega
  obtain ⟨u1, u2⟩ := h.up b hb hr
  have u3 : ∀ r ∈ at' x.in_ b, r ∈ atI (at' c.b b).i (neededI (at' c.b b).t x.in_) 0 := fun r hr => atI_mono u1 r (u2 r hr)
  have hN : LiOk c.regs (neededI (at' c.b b).t x.in_) := LiOk.needed (fun s hs => (h.ok _ (hto s hs)).1) (hf.rt _ hmB).2.1
  have hA : LiOk c.regs (atI (at' c.b b).i (neededI (at' c.b b).t x.in_) 0) := hN.at fun i hi => (hf.rd _ hmB i hi).2.1
  have hin : ∀ j, at' (oneB c x b).in_ j = if j = b then atI (at' c.b b).i (neededI (at' c.b b).t x.in_) 0 else at' x.in_ j := fun j => at_set (by rw [h.li]; exact hb)
  have hout : ∀ j, at' (oneB c x b).out j = if j = b then neededI (at' c.b b).t x.in_ else at' x.out j := fun j => at_set (by rw [h.lo]; exact hb)
  have grow : ∀ j, ∀ r ∈ at' x.in_ j, r ∈ at' (oneB c x b).in_ j := by
    intro j r hj
    rw [hin]
    split
    · rename_i e; subst e; exact u3 r hj
    · exact hj
  refine ⟨⟨by simp [oneB, h.li], by simp [oneB, h.lo], fun j hj => ?_, fun j hj hu => ?_, fun j hj hu => ?_, fun y hy j hj => ?_⟩, u1, u3⟩
  · rw [hin, hout]
    split
    · exact ⟨hA, hN⟩
    · exact h.ok j hj
  · have hne : j ≠ b := by rintro rfl; rw [hr] at hu; cases hu
    rw [hin, hout, if_neg hne, if_neg hne]
    exact h.un j hj hu
  · have hmono : ∀ r ∈ neededI (at' c.b j).t x.in_, r ∈ neededI (at' c.b j).t (oneB c x b).in_ := neededI_mono fun s _ => grow _
    rw [hin, hout]
    split
    · rename_i e; subst e
      exact ⟨hmono, fun r hr => hr⟩
    · obtain ⟨v1, v2⟩ := h.up j hj hu
      exact ⟨fun r hr => hmono r (v1 r hr), v2⟩
  · rw [hin, hout]
    split
    · rename_i e; subst e
      obtain ⟨w1, w2⟩ := hy j hj hr
      have n1 : ∀ r ∈ neededI (at' c.b j).t x.in_, r ∈ at' y.out j := fun r hr => w1 r (neededI_mono (fun s hs r hr => (h.le y hy _ (hto s hs)).1 r hr) r hr)
      exact ⟨fun r hr => w2 r (atI_mono n1 r hr), n1⟩
    · exact h.le y hy j hj
theorem Way.least {c : Code} {x : Live} (h : Way c x) (hx : ∀ b, b < c.b.length → at' (reachL c) b = true → at' x.out b = neededI (at' c.b b).t x.in_ ∧ at' x.in_ b = atI (at' c.b b).i (at' x.out b) 0) : Least c x :=
  ⟨h.li, h.lo, h.ok, h.un, hx, h.le⟩
theorem Least.way {c : Code} {x : Live} (h : Least c x) : Way c x :=
  ⟨h.li, h.lo, h.ok, h.un, fun b hb hr => by obtain ⟨h1, h2⟩ := h.fx b hb hr; exact ⟨fun r k => by rw [← h1]; exact k, fun r k => by rw [← h2]; exact k⟩, h.le⟩
def tot (x : Live) : Nat := ((x.in_.map List.length).sum + (x.out.map List.length).sum)
theorem sum_set {xs : List (List Int)} {k : Nat} {a : List Int} (h : k < xs.length) : ((xs.set k a).map List.length).sum + (at' xs k).length = (xs.map List.length).sum + a.length := by
  induction xs generalizing k with
  | nil => simp at h
  | cons x xs ih =>
    cases k with
    | zero => simp [at']; omega
    | succ k =>
      have := ih (k := k) (by simpa using h)
      have e : at' (x :: xs) (k + 1) = at' xs k := by simp [at']
      rw [e]
      simp only [List.set_cons_succ, List.map_cons, List.sum_cons]; omega
theorem sum_le {xs : List (List Int)} {m : Nat} (h : ∀ k, k < xs.length → (at' xs k).length ≤ m) : (xs.map List.length).sum ≤ xs.length * m := by
  induction xs with
  | nil => simp
  | cons x xs ih =>
    have h0 := h 0 (by simp)
    have h1 := ih fun k hk => by simpa [at'] using h (k + 1) (by simpa using hk)
    simp only [at', List.getD_cons_zero] at h0
    simp only [List.map_cons, List.sum_cons, List.length_cons, Nat.succ_mul]; omega
theorem Way.tot {c : Code} {x : Live} (h : Way c x) (hr : c.regs ≤ 256) : tot x ≤ 512 * c.b.length := by
  have h1 := sum_le (xs := x.in_) (m := 256) fun k hk => (h.ok k (by rw [← h.li]; exact hk)).1.len hr
  have h2 := sum_le (xs := x.out) (m := 256) fun k hk => (h.ok k (by rw [← h.lo]; exact hk)).2.len hr
  rw [h.li] at h1; rw [h.lo] at h2
  unfold Ab.tot; omega
theorem one_tot {c : Code} {x : Live} {b : Nat} (hf : Fit c) (h : Way c x) (hb : b < c.b.length) (hr : at' (reachL c) b = true) : tot x ≤ tot (oneB c x b) ∧ ((neededI (at' c.b b).t x.in_).length > (at' x.out b).length ∨ (atI (at' c.b b).i (neededI (at' c.b b).t x.in_) 0).length > (at' x.in_ b).length → tot x < tot (oneB c x b)) ∧
    (¬ ((neededI (at' c.b b).t x.in_).length > (at' x.out b).length ∨ (atI (at' c.b b).i (neededI (at' c.b b).t x.in_) 0).length > (at' x.in_ b).length) → oneB c x b = x ∧ at' x.out b = neededI (at' c.b b).t x.in_ ∧ at' x.in_ b = atI (at' c.b b).i (at' x.out b) 0) := by
  obtain ⟨h1, u1, u3⟩ := h.one hf hb hr
  have hk := h.ok b hb
  have pN := pw_neededI (at' c.b b).t x.in_
  have pA : (atI (at' c.b b).i (neededI (at' c.b b).t x.in_) 0).Pairwise (· < ·) := pw_atI pN
  have l1 := sub_len hk.2.2 pN u1
  have l2 := sub_len hk.1.2 pA u3
  have s1 := sum_set (xs := x.in_) (k := b) (a := atI (at' c.b b).i (neededI (at' c.b b).t x.in_) 0) (by rw [h.li]; exact hb)
  have s2 := sum_set (xs := x.out) (k := b) (a := neededI (at' c.b b).t x.in_) (by rw [h.lo]; exact hb)
  refine ⟨by simp only [tot, oneB]; omega, fun hg => by simp only [tot, oneB]; omega, fun hg => ?_⟩
  have e1 : at' x.out b = neededI (at' c.b b).t x.in_ := eq_of_sub hk.2.2 pN u1 (by omega)
  have e2 : at' x.in_ b = atI (at' c.b b).i (neededI (at' c.b b).t x.in_) 0 := eq_of_sub hk.1.2 pA u3 (by omega)
  have set_self : ∀ {xs : List (List Int)} {k : Nat} {a : List Int}, k < xs.length → at' xs k = a → xs.set k a = xs := by
    intro xs k a hk hka
    apply List.ext_getElem?
    intro i
    rw [List.getElem?_set]
    split
    · rename_i e; subst e
      rw [List.getElem?_eq_getElem hk]
      simp [at', hk] at hka
      rw [hka]
    · rfl
  refine ⟨?_, e1, by rw [e1]; exact e2⟩
  unfold oneB
  rw [set_self (by rw [h.li]; exact hb) e2, set_self (by rw [h.lo]; exact hb) e1]
end Go.Ab
