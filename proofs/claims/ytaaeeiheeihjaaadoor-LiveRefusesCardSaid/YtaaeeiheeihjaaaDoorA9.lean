/- The road to a card of this seat: T11, Eq, Eq2, T12, Find, Ex, P1. Each theorem holds for every input that its own premises speak of. -/
import Derived.Test.YtaaeeiheeihjaaaDoorA8
set_option linter.all false
namespace Go.Ab
section
variable {P : Program} {X : Cx} {mk : MK} {N : Nat} {E : TEnv} {Th : List Root} {Q : TPost}
theorem wct_loop4 {id : Nat} {c d : Go.Code} {σ0 σ1 σ2 σ3 : Type} (I : σ0 → σ1 → σ2 → σ3 → Prop) (F : σ0 → σ1 → σ2 → σ3 → TEnv) (R : σ0 → σ1 → σ2 → σ3 → List Root) (μ : σ0 → σ1 → σ2 → σ3 → Nat) (z0 : σ0) (z1 : σ1) (z2 : σ2) (z3 : σ3) (hE : subET (F z0 z1 z2 z3) E) (hT : Th = R z0 z1 z2 z3) (h0 : I z0 z1 z2 z3)
    (hstep : ∀ s0 s1 s2 s3, I s0 s1 s2 s3 → WCt P X mk c N (F s0 s1 s2 s3) (R s0 s1 s2 s3) (QSt (LoopT (fun q : σ0 × σ1 × σ2 × σ3 => I q.1 q.2.1 q.2.2.1 q.2.2.2) (fun q : σ0 × σ1 × σ2 × σ3 => F q.1 q.2.1 q.2.2.1 q.2.2.2) (fun q : σ0 × σ1 × σ2 × σ3 => R q.1 q.2.1 q.2.2.1 q.2.2.2) (fun q : σ0 × σ1 × σ2 × σ3 => μ q.1 q.2.1 q.2.2.1 q.2.2.2) (s0, s1, s2, s3)) (QBt id (QSt (fun E' Th' => WCt P X mk d N E' Th' Q) Q)))) : WCt P X mk (.seq (.block id (.loop c)) d) N E Th Q :=
  wct_loop_seq (fun q : σ0 × σ1 × σ2 × σ3 => I q.1 q.2.1 q.2.2.1 q.2.2.2) (fun q : σ0 × σ1 × σ2 × σ3 => F q.1 q.2.1 q.2.2.1 q.2.2.2) (fun q : σ0 × σ1 × σ2 × σ3 => R q.1 q.2.1 q.2.2.1 q.2.2.2) (fun q : σ0 × σ1 × σ2 × σ3 => μ q.1 q.2.1 q.2.2.1 q.2.2.2) (z0, z1, z2, z3) hE hT h0 fun s h => hstep s.1 s.2.1 s.2.2.1 s.2.2.2 h
theorem wct_loop5 {id : Nat} {c d : Go.Code} {σ0 σ1 σ2 σ3 σ4 : Type} (I : σ0 → σ1 → σ2 → σ3 → σ4 → Prop) (F : σ0 → σ1 → σ2 → σ3 → σ4 → TEnv) (R : σ0 → σ1 → σ2 → σ3 → σ4 → List Root) (μ : σ0 → σ1 → σ2 → σ3 → σ4 → Nat) (z0 : σ0) (z1 : σ1) (z2 : σ2) (z3 : σ3) (z4 : σ4) (hE : subET (F z0 z1 z2 z3 z4) E) (hT : Th = R z0 z1 z2 z3 z4) (h0 : I z0 z1 z2 z3 z4)
    (hstep : ∀ s0 s1 s2 s3 s4, I s0 s1 s2 s3 s4 → WCt P X mk c N (F s0 s1 s2 s3 s4) (R s0 s1 s2 s3 s4) (QSt (LoopT (fun q : σ0 × σ1 × σ2 × σ3 × σ4 => I q.1 q.2.1 q.2.2.1 q.2.2.2.1 q.2.2.2.2) (fun q : σ0 × σ1 × σ2 × σ3 × σ4 => F q.1 q.2.1 q.2.2.1 q.2.2.2.1 q.2.2.2.2) (fun q : σ0 × σ1 × σ2 × σ3 × σ4 => R q.1 q.2.1 q.2.2.1 q.2.2.2.1 q.2.2.2.2) (fun q : σ0 × σ1 × σ2 × σ3 × σ4 => μ q.1 q.2.1 q.2.2.1 q.2.2.2.1 q.2.2.2.2) (s0, s1, s2, s3, s4)) (QBt id (QSt (fun E' Th' => WCt P X mk d N E' Th' Q) Q)))) : WCt P X mk (.seq (.block id (.loop c)) d) N E Th Q :=
  wct_loop_seq (fun q : σ0 × σ1 × σ2 × σ3 × σ4 => I q.1 q.2.1 q.2.2.1 q.2.2.2.1 q.2.2.2.2) (fun q : σ0 × σ1 × σ2 × σ3 × σ4 => F q.1 q.2.1 q.2.2.1 q.2.2.2.1 q.2.2.2.2) (fun q : σ0 × σ1 × σ2 × σ3 × σ4 => R q.1 q.2.1 q.2.2.1 q.2.2.2.1 q.2.2.2.2) (fun q : σ0 × σ1 × σ2 × σ3 × σ4 => μ q.1 q.2.1 q.2.2.1 q.2.2.2.1 q.2.2.2.2) (z0, z1, z2, z3, z4) hE hT h0 fun s h => hstep s.1 s.2.1 s.2.2.1 s.2.2.2.1 s.2.2.2.2 h
theorem wct_loop16 {id : Nat} {c : Go.Code} {σ0 σ1 σ2 σ3 σ4 σ5 : Type} (I : σ0 → σ1 → σ2 → σ3 → σ4 → σ5 → Prop) (F : σ0 → σ1 → σ2 → σ3 → σ4 → σ5 → TEnv) (R : σ0 → σ1 → σ2 → σ3 → σ4 → σ5 → List Root) (μ : σ0 → σ1 → σ2 → σ3 → σ4 → σ5 → Nat) (z0 : σ0) (z1 : σ1) (z2 : σ2) (z3 : σ3) (z4 : σ4) (z5 : σ5) (hE : subET (F z0 z1 z2 z3 z4 z5) E) (hT : Th = R z0 z1 z2 z3 z4 z5) (h0 : I z0 z1 z2 z3 z4 z5)
    (hstep : ∀ s0 s1 s2 s3 s4 s5, I s0 s1 s2 s3 s4 s5 → WCt P X mk c N (F s0 s1 s2 s3 s4 s5) (R s0 s1 s2 s3 s4 s5) (QSt (LoopT (fun q : σ0 × σ1 × σ2 × σ3 × σ4 × σ5 => I q.1 q.2.1 q.2.2.1 q.2.2.2.1 q.2.2.2.2.1 q.2.2.2.2.2) (fun q : σ0 × σ1 × σ2 × σ3 × σ4 × σ5 => F q.1 q.2.1 q.2.2.1 q.2.2.2.1 q.2.2.2.2.1 q.2.2.2.2.2) (fun q : σ0 × σ1 × σ2 × σ3 × σ4 × σ5 => R q.1 q.2.1 q.2.2.1 q.2.2.2.1 q.2.2.2.2.1 q.2.2.2.2.2) (fun q : σ0 × σ1 × σ2 × σ3 × σ4 × σ5 => μ q.1 q.2.1 q.2.2.1 q.2.2.2.1 q.2.2.2.2.1 q.2.2.2.2.2) (s0, s1, s2, s3, s4, s5)) (QBt id Q))) : WCt P X mk (.block id (.loop c)) N E Th Q :=
  wct_loop1 (fun q : σ0 × σ1 × σ2 × σ3 × σ4 × σ5 => I q.1 q.2.1 q.2.2.1 q.2.2.2.1 q.2.2.2.2.1 q.2.2.2.2.2) (fun q : σ0 × σ1 × σ2 × σ3 × σ4 × σ5 => F q.1 q.2.1 q.2.2.1 q.2.2.2.1 q.2.2.2.2.1 q.2.2.2.2.2) (fun q : σ0 × σ1 × σ2 × σ3 × σ4 × σ5 => R q.1 q.2.1 q.2.2.1 q.2.2.2.1 q.2.2.2.2.1 q.2.2.2.2.2) (fun q : σ0 × σ1 × σ2 × σ3 × σ4 × σ5 => μ q.1 q.2.1 q.2.2.1 q.2.2.2.1 q.2.2.2.2.1 q.2.2.2.2.2) (z0, z1, z2, z3, z4, z5) hE hT h0 fun s h => hstep s.1 s.2.1 s.2.2.1 s.2.2.2.1 s.2.2.2.2.1 s.2.2.2.2.2 h
end
end Go.Ab
namespace Go.Ab
open Go.Proofs
theorem pureRun_bind {α β : Type} {P : Program} (s : Sem α) (f : α → Sem β) : pureRun P (s >>= f) = (pureRun P s).bind fun a => pureRun P (f a) := by
  show pureRun P (Sem.bind s f) = _
  induction s with
  | pure a => rfl
  | program k ih => exact ih P
  | _ => rfl
set_option maxRecDepth 100000 in
theorem eql91 (d : Nat) (a b : Int) : pureRun Tryd.prog (Op.equalIn (d + 1) 91 (.int .u64 a) (.int .u64 b)) = some (a == b) := by rfl
set_option maxRecDepth 100000 in
theorem part91 (a0 a1 a2 a3 : Int) : pureRun Tryd.prog (Go.part 91 #[.int .u64 a0, .int .u64 a1, .int .u64 a2, .int .u64 a3] (0 * 1)) = some (.int .u64 a0) ∧ pureRun Tryd.prog (Go.part 91 #[.int .u64 a0, .int .u64 a1, .int .u64 a2, .int .u64 a3] (1 * 1)) = some (.int .u64 a1) ∧ pureRun Tryd.prog (Go.part 91 #[.int .u64 a0, .int .u64 a1, .int .u64 a2, .int .u64 a3] (2 * 1)) = some (.int .u64 a2) ∧ pureRun Tryd.prog (Go.part 91 #[.int .u64 a0, .int .u64 a1, .int .u64 a2, .int .u64 a3] (3 * 1)) = some (.int .u64 a3) := ⟨rfl, rfl, rfl, rfl⟩
theorem eql93 (d : Nat) (a0 a1 a2 a3 b0 b1 b2 b3 : Int) : pureRun Tryd.prog (Op.equalIn (d + 2) 93 (.agg #[.int .u64 a0, .int .u64 a1, .int .u64 a2, .int .u64 a3]) (.agg #[.int .u64 b0, .int .u64 b1, .int .u64 b2, .int .u64 b3])) = some (a0 == b0 && (a1 == b1 && (a2 == b2 && a3 == b3))) := by
  unfold Op.equalIn
  simp only [pureRun_bind]
  have e1 : pureRun Tryd.prog (underlying 93) = some (.array 4 91) := by kernel_rfl
  have e2 : pureRun Tryd.prog (sizeOf 91) = some 1 := by kernel_rfl
  have el : List.range' 0 4 1 = [0, 1, 2, 3] := rfl
  obtain ⟨p0, p1, p2, p3⟩ := part91 a0 a1 a2 a3
  obtain ⟨q0, q1, q2, q3⟩ := part91 b0 b1 b2 b3
  simp only [e1, Option.bind_some, pureRun_bind, e2]
  rw [Std.Legacy.Range.forIn_eq_forIn_range']
  simp only [Std.Legacy.Range.size, Nat.sub_zero, Nat.add_sub_cancel, Nat.div_one, el, List.forIn_cons, pureRun_bind, p0, p1, p2, p3, q0, q1, q2, q3, Option.bind_some, eql91]
  have pp : ∀ {α : Type} (a : α), pureRun Tryd.prog (pure a : Sem α) = some a := fun _ => rfl
  cases h0 : a0 == b0
  · rfl
  simp only [Bool.not_true, Bool.false_eq_true, if_false, pp, Option.bind_some, pureRun_bind, p1, q1, eql91]
  cases h1 : a1 == b1
  · rfl
  simp only [Bool.not_true, Bool.false_eq_true, if_false, pp, Option.bind_some, pureRun_bind, p2, q2, eql91]
  cases h2 : a2 == b2
  · rfl
  simp only [Bool.not_true, Bool.false_eq_true, if_false, pp, Option.bind_some, pureRun_bind, p3, q3, eql91]
  cases h3 : a3 == b3
  · rfl
  rfl
end Go.Ab
namespace Go.Ab
open Go.Proofs
theorem vrs_ws {G : Heap} {D : Nat → Prop} {p : Pl} : ∀ {ws : List W} {vs : List Value}, VRs G D p (ws.flatMap cls) vs → vs = ws.map fun w => .int .u64 (w.toNat : Int)
  | [], _, h => by cases h; rfl
  | w :: ws, vs, h => by
    rw [List.flatMap_cons] at h
    change VRs G D p (TV.v (.int .u64 (w.toNat : Int)) :: ws.flatMap cls) vs at h
    cases h with
    | cons a b =>
      cases a
      rw [vrs_ws b]; rfl
theorem bs_four (s : BS) : ∃ a b c d, s.ws = [a, b, c, d] := by
  have h := s.h
  match hw : s.ws, h with
  | [a, b, c, d], _ => exact ⟨a, b, c, d, rfl⟩
instance : DecidableEq BS := fun s t => decidable_of_iff (s.ws = t.ws) ⟨BS.ext', fun h => by rw [h]⟩
set_option maxRecDepth 100000 in
theorem neq_run {ox oy : Operand} {s t : BS} : binA Tryd.prog .neq 93 ox oy (.agg ⟨s.ws.map fun w => .int .u64 (w.toNat : Int)⟩) (.agg ⟨t.ws.map fun w => .int .u64 (w.toNat : Int)⟩) = some (.bool (decide (s ≠ t))) := by
  obtain ⟨a0, a1, a2, a3, hs⟩ := bs_four s
  obtain ⟨b0, b1, b2, b3, ht⟩ := bs_four t
  have he : (decide (s ≠ t)) = !(((a0.toNat : Int) == b0.toNat) && (((a1.toNat : Int) == b1.toNat) && (((a2.toNat : Int) == b2.toNat) && ((a3.toNat : Int) == b3.toNat)))) := by
    have hi : ∀ x y : W, ((x.toNat : Int) == (y.toNat : Int)) = decide (x = y) := fun x y => by
      rw [Bool.eq_iff_iff]; simp only [beq_iff_eq, decide_eq_true_eq]; rw [Int.ofNat_inj]; exact BitVec.toNat_inj
    have hst : s = t ↔ (a0 = b0 ∧ a1 = b1 ∧ a2 = b2 ∧ a3 = b3) := by
      constructor
      · rintro rfl; rw [hs] at ht; simpa using ht
      · rintro ⟨rfl, rfl, rfl, rfl⟩; exact BS.ext' (hs.trans ht.symm)
    simp only [hi]
    rw [Bool.eq_iff_iff]
    simp [hst]
  rw [hs, ht, he]
  have hg : pureRun Tryd.prog (eqGuard .neq 93 ox oy (.agg #[.int .u64 (a0.toNat : Int), .int .u64 (a1.toNat : Int), .int .u64 (a2.toNat : Int), .int .u64 (a3.toNat : Int)]) (.agg #[.int .u64 (b0.toNat : Int), .int .u64 (b1.toNat : Int), .int .u64 (b2.toNat : Int), .int .u64 (b3.toNat : Int)])) = some () := by rfl
  have hq := eql93 9998 a0.toNat a1.toNat a2.toNat a3.toNat b0.toNat b1.toNat b2.toNat b3.toNat
  unfold binA
  rw [if_pos (by rfl)]
  unfold pureV
  have hb : pureRun Tryd.prog (binOp .neq 93 (.agg #[.int .u64 (a0.toNat : Int), .int .u64 (a1.toNat : Int), .int .u64 (a2.toNat : Int), .int .u64 (a3.toNat : Int)]) (.agg #[.int .u64 (b0.toNat : Int), .int .u64 (b1.toNat : Int), .int .u64 (b2.toNat : Int), .int .u64 (b3.toNat : Int)])) = some (.bool (!(((a0.toNat : Int) == b0.toNat) && (((a1.toNat : Int) == b1.toNat) && (((a2.toNat : Int) == b2.toNat) && ((a3.toNat : Int) == b3.toNat)))))) := by
    show pureRun Tryd.prog (Op.equal 93 _ _ >>= fun r => pure (Value.bool (!r))) = _
    rw [pureRun_bind]
    show (pureRun Tryd.prog (Op.equalIn (9998 + 2) 93 _ _)).bind _ = _
    rw [hq]; rfl
  rw [pureRun_bind]
  simp only [List.map_cons, List.map_nil]
  rw [hg]
  simp only [Option.bind_some, hb]
  rfl
theorem bs_val {G : Heap} {D : Nat → Prop} {p : Pl} {s : BS} {w : Value} (h : VR G D p (Enc.tv s) w) : w = .agg ⟨s.ws.map fun w => .int .u64 (w.toNat : Int)⟩ := by
  change VR G D p (.agg (s.ws.flatMap cls)) w at h
  cases h with
  | agg h => rw [vrs_ws h]
theorem opt_neqB {X : Cx} {E : TEnv} {Th : List Root} {u : TypeId} {x y : Operand} {s t : BS} (hx : evTV E x = some (Enc.tv s)) (hy : evTV E y = some (Enc.tv t)) (o1 : okOpd Tryd.prog x = true) (o2 : okOpd Tryd.prog y = true) : OpT Tryd.prog X E Th (.binOp .neq 93 x y u) (tb (decide (s ≠ t))) Th .no :=
  opt_quiet (fun _ => .inl (by simp)) (by simp [Op.operands, o1, o2]) fun T G p hr => ⟨.bool (decide (s ≠ t)), by
    simp only [stepOp, bs_val (hr.ev hx o1), bs_val (hr.ev hy o2), neq_run, Option.map_some], .flat rfl⟩
theorem fill_bs {s : BS} : fillT (fun i => some (i * 4, 4)) (zerosT (.agg #[.int .u64 0, .int .u64 0, .int .u64 0, .int .u64 0]) 1) [(0, Enc.tv s)] = some ([s].flatMap cls) := by
  obtain ⟨a, b, c, d, h⟩ := bs_four s
  have e : (Enc.tv s) = .agg [tw a, tw b, tw c, tw d] := by
    show TV.agg (s.ws.flatMap cls) = _
    rw [h]; rfl
  have e2 : [s].flatMap cls = [tw a, tw b, tw c, tw d] := by
    show cls s ++ [] = _
    rw [List.append_nil]
    show (Enc.tv s).cells = _
    rw [e]; rfl
  rw [e, e2]; rfl
end Go.Ab
namespace Go.Ab
def loB (n : Nat) : TV → Bool
  | .v _ => true
  | .own i _ _ _ _ _ => Nat.blt i n
  | .pt i _ _ => Nat.blt i n
  | _ => false
theorem lo_all {n : Nat} {cs : List TV} (h : cs.all (loB n) = true) : ∀ c ∈ cs, Lo n c := fun c hc => by
  have := List.all_eq_true.1 h c hc
  cases c with
  | v x => exact .cl (.v x)
  | own i g sz off k cap => exact .own this
  | pt i g off => exact .pt this
  | _ => exact absurd this (by simp [loB])
section
variable {X : Cx} {E : TEnv} {Th : List Root}
theorem fz_vr {T : Array Value} {G : Heap} {p : Pl} {i g : Nat} {e : TypeId} {cs : List TV} {x x' : TV} {w : Value} (hr : Rl X E Th T G p) (hi : Th[i]? = some ⟨g, some (e, cs)⟩) (hf : Fz i g cs x x') (h2 : VR G X.D p x w) : VR G X.D (p.set i (g, none)) x' w := by
  obtain ⟨k1, k2⟩ := hr.hr.drop hi
  have hno : ∀ {b}, p[i]? = some (g, some (some b)) → ¬ isOwn (p.set i (g, none)) b := by
    rintro b hb ⟨j, g', hj⟩
    rw [List.getElem?_set] at hj
    split at hj
    · split at hj <;> cases hj
    · rename_i hij; exact hij (hr.hr.inj i j g g' b hb hj)
  cases hf with
  | same => exact h2.mono k2
  | own hle hc hn h0 =>
    rcases hr.hr.get hi with ⟨b, vs, q1, q2, q3, q4⟩ | ⟨rfl, q1⟩
    · cases h2 with
      | own _ r _ _ =>
        rw [r b q1]
        refine .fz (a := ⟨b, _, _⟩) ?_ (((q3.drop _).take _).mono k2) hc (.inl rfl) hn h0 ⟨fun _ => q4, hno q1⟩
        simp only [cellsA, q2]
        rw [if_pos (by rw [← q3.length]; exact hle)]
    · cases h2 with
      | own _ _ r _ =>
        obtain ⟨r1, rfl, r3⟩ := r q1
        rw [r1]
        rw [List.drop_nil, List.take_nil]
        exact .fnil
  | pt hc =>
    obtain ⟨b, vs, q1, q2, q3, q4⟩ := hr.hr.get1 hi hc
    cases h2 with
    | pt _ r _ =>
      rw [r b q1]
      exact vr_fp0 (cells_all q2 q3.length) (q3.mono k2) ⟨fun _ => q4, hno q1⟩
theorem g_freezecell {i g j gj o : Nat} {e ej : TypeId} {cs cj : List TV} {x x' : TV} (hi : Th[i]? = some ⟨g, some (e, cs)⟩) (hj : Th[j]? = some ⟨gj, some (ej, cj)⟩) (hij : i ≠ j) (ho : cj[o]? = some x) (hX : X.p.length ≤ i) (hf : Fz i g cs x x') : ∀ T G p, Rl X E Th T G p → ∃ p', Rl X E ((Th.set i ⟨g, none⟩).set j ⟨gj, some (ej, cj.set o x')⟩) T G p' := fun T G p hr => by
  obtain ⟨k1, k2⟩ := hr.hr.drop hi
  have hj1 : (Th.set i ⟨g, none⟩)[j]? = some ⟨gj, some (ej, cj)⟩ := by rw [List.getElem?_set_ne hij]; exact hj
  have hoc := (List.getElem?_eq_some_iff.1 ho).1
  refine ⟨_, hr.st.drop hr.ol hX k2, hr.ol, ⟨by rw [k1.len]; simp, k1.inj, fun q R hq => ?_⟩, fun k y hk => ?_, hr.dd, hr.gl.le k2⟩
  · rw [List.getElem?_set] at hq
    split at hq
    · rename_i hjq
      subst hjq
      split at hq
      rotate_left
      · cases hq
      cases hq
      obtain ⟨b, vs, m1, m2, m3, m4⟩ := hr.hr.get1 hj (by omega)
      refine .inl ⟨b, vs, by rw [List.getElem?_set_ne hij]; exact m1, m2, ?_, m4⟩
      refine VRs.mk (by simp [m3.length]) fun q c v hq hv => ?_
      rw [List.getElem?_set] at hq
      split at hq
      · rename_i hoq
        subst hoq
        (try rw [if_pos hoc] at hq)
        cases hq
        obtain ⟨v', n1, n2⟩ := m3.get ho
        rw [hv] at n1; cases n1
        exact fz_vr hr hi hf n2
      · obtain ⟨v', n1, n2⟩ := m3.get hq
        rw [hv] at n1; cases n1
        exact n2.mono k2
    · exact k1.row q R hq
  · obtain ⟨w, h1, h2⟩ := hr.en k y hk
    exact ⟨w, h1, h2.mono k2⟩
end
end Go.Ab
namespace Go.Ab
theorem LiOk.lt {regs : Int} {l : List Int} (h : LiOk regs l) (hr : regs ≤ 256) : ∀ r ∈ l, r < 256 := fun r hm => by have := h.1 r hm; omega
theorem LiOk.w {regs : Int} {l : List Int} (h : LiOk regs l) (hr : regs ≤ 256) : LiOk 256 l := ⟨fun r hm => by have := h.1 r hm; omega, h.2⟩
theorem before_lt {i : Inst} {l : List Int} (hu : ∀ r ∈ usesI i, r < 256) (hl : ∀ r ∈ l, r < 256) : ∀ r ∈ beforeI i l, r < 256 := fun r hr => by
  rcases mem_beforeI.1 hr with ⟨h, _⟩ | h
  · exact hl r h
  · exact hu r h
theorem beforeB_of {i : Inst} {l : List Int} (hd : dfn i < 256) (hu : ∀ r ∈ usesI i, r < 256) (hl : ∀ r ∈ l, r < 256) : beforeB i (ofB l) = ofB (beforeI i l) := BS.eq fun n hn => by
  unfold beforeB
  rw [hasB_union hn, hasB_without hd hn, hasB_of hu hn, hasB_of hl hn, hasB_of (before_lt hu hl) hn, Bool.eq_iff_iff]
  simp only [Bool.or_eq_true, Bool.and_eq_true, Bool.not_eq_true', decide_eq_true_eq, decide_eq_false_iff_not, mem_beforeI]
  constructor
  · rintro (⟨h1, h2⟩ | h)
    · exact .inl ⟨h1, fun e => h2 e.symm⟩
    · exact .inr h
  · rintro (⟨h1, h2⟩ | h)
    · exact .inl ⟨h1, fun e => h2 e.symm⟩
    · exact .inr h
theorem foldr_lt {is : List Inst} (hb : ∀ i ∈ is, dfn i < 256 ∧ ∀ r ∈ usesI i, r < 256) {l : List Int} (hl : ∀ r ∈ l, r < 256) : ∀ r ∈ is.foldr beforeI l, r < 256 := by
  induction is with
  | nil => exact hl
  | cons i is ih => exact before_lt (hb i (by simp)).2 (ih fun j hj => hb j (by simp [hj]))
theorem foldrB_of {is : List Inst} (hb : ∀ i ∈ is, dfn i < 256 ∧ ∀ r ∈ usesI i, r < 256) {l : List Int} (hl : ∀ r ∈ l, r < 256) : is.foldr beforeB (ofB l) = ofB (is.foldr beforeI l) := by
  induction is with
  | nil => rfl
  | cons i is ih =>
    have h := fun j hj => hb j (List.mem_cons_of_mem _ hj)
    rw [List.foldr_cons, List.foldr_cons, ih h, beforeB_of (hb i (by simp)).1 (hb i (by simp)).2 (foldr_lt h hl)]
theorem atB_of {is : List Inst} (hb : ∀ i ∈ is, dfn i < 256 ∧ ∀ r ∈ usesI i, r < 256) {l : List Int} (hl : ∀ r ∈ l, r < 256) (k : Nat) : atB is (ofB l) k = ofB (atI is l k) := foldrB_of (fun i hi => hb i (List.mem_of_mem_drop hi)) hl
theorem at_map {α β : Type} [Enc α] [Enc β] {f : α → β} {xs : List α} {k : Nat} (h : k < xs.length) : at' (xs.map f) k = f (at' xs k) := by simp [at', h]
theorem hasB_succ {ins : List BS} {n : Nat} (hn : n < 256) : ∀ (ss : List Int) (acc : BS), hasB (ss.foldl (fun s j => unionB s (at' ins j.toNat)) acc) n = (hasB acc n || ss.any fun j => hasB (at' ins j.toNat) n)
  | [], acc => by simp
  | s :: ss, acc => by rw [List.foldl_cons, hasB_succ hn ss, hasB_union hn, List.any_cons, Bool.or_assoc]
theorem needed_lt {t : Term} {ls : List (List Int)} (hu : ∀ r ∈ usesT t, r < 256) (hl : ∀ s ∈ succT t, ∀ r ∈ at' ls s.toNat, r < 256) : ∀ r ∈ neededI t ls, r < 256 := fun r hr => by
  rcases mem_neededI.1 hr with ⟨⟨s, hs, h⟩, _⟩ | h
  · exact hl s hs r h
  · exact hu r h
theorem neededB_of {t : Term} {ls : List (List Int)} (hto : ∀ s ∈ succT t, 0 ≤ s ∧ s < ls.length) (hd : dfnT t < 256) (hu : ∀ r ∈ usesT t, r < 256) (hl : ∀ s ∈ succT t, ∀ r ∈ at' ls s.toNat, r < 256) : neededB t (ls.map ofB) = ofB (neededI t ls) := BS.eq fun n hn => by
  unfold neededB succB
  rw [hasB_union hn, hasB_without hd hn, hasB_of hu hn, hasB_succ hn, hasB_empty, Bool.false_or, hasB_of (needed_lt hu hl) hn, Bool.eq_iff_iff]
  simp only [Bool.or_eq_true, Bool.and_eq_true, Bool.not_eq_true', decide_eq_true_eq, decide_eq_false_iff_not, mem_neededI, List.any_eq_true]
  have key : ∀ s, s ∈ succT t → (hasB (at' (ls.map ofB) s.toNat) n = true ↔ (n : Int) ∈ at' ls s.toNat) := fun s hs => by
    rw [at_map (by have := hto s hs; omega), hasB_of (hl s hs) hn, decide_eq_true_eq]
  constructor
  · rintro (⟨⟨s, h1, h3⟩, h2⟩ | h)
    · exact .inl ⟨⟨s, h1, (key s h1).1 h3⟩, fun e => h2 e.symm⟩
    · exact .inr h
  · rintro (⟨⟨s, h1, h3⟩, h2⟩ | h)
    · exact .inl ⟨⟨s, h1, (key s h1).2 h3⟩, fun e => h2 e.symm⟩
    · exact .inr h
theorem ofB_inj {l m : List Int} (hl : LiOk 256 l) (hm : LiOk 256 m) : ofB l = ofB m ↔ l = m := ⟨fun h => by rw [← listB_ofB hl, ← listB_ofB hm, h], fun h => by rw [h]⟩
theorem Fit.u {c : Code} (hf : Fit c) {b : Nat} (h : b < c.b.length) : (∀ i ∈ (at' c.b b).i, dfn i < 256 ∧ ∀ r ∈ usesI i, r < 256) ∧ dfnT (at' c.b b).t < 256 ∧ ∀ r ∈ usesT (at' c.b b).t, r < 256 := by
  have hm : at' c.b b ∈ c.b := by simp [at', h]
  have hr := hf.rg.2
  have h2 := hf.rt _ hm
  refine ⟨fun i hi => ?_, by omega, fun r hr => by have := h2.2.1 r hr; omega⟩
  have h1 := hf.rd _ hm i hi
  exact ⟨by omega, fun r hr => by have := h1.2.1 r hr; omega⟩

structure Frm (c : Code) (fr : List (List Int)) (k : Nat) : Prop where
  len : fr.length = c.b.length
  ok : ∀ x, x < c.b.length → ∀ b ∈ at' fr x, 0 ≤ b ∧ b < c.b.length ∧ at' (reachL c) b.toNat = true
  all : ∀ b, b < k → b < c.b.length → at' (reachL c) b = true → ∀ s ∈ succT (at' c.b b).t, (b : Int) ∈ at' fr s.toNat
  sz : ∀ x, x < c.b.length → (at' fr x).length ≤ 2 * k
structure FrmI (c : Code) (fr : List (List Int)) (k i : Nat) : Prop where
  len : fr.length = c.b.length
  ok : ∀ x, x < c.b.length → ∀ b ∈ at' fr x, 0 ≤ b ∧ b < c.b.length ∧ at' (reachL c) b.toNat = true
  all : ∀ b, b < k → b < c.b.length → at' (reachL c) b = true → ∀ s ∈ succT (at' c.b b).t, (b : Int) ∈ at' fr s.toNat
  dn : ∀ s ∈ (succT (at' c.b k).t).take i, (k : Int) ∈ at' fr s.toNat
  sz : ∀ x, x < c.b.length → (at' fr x).length ≤ 2 * k + i
theorem Frm.start (c : Code) : Frm c (List.replicate c.b.length []) 0 :=
  ⟨by simp, fun x hx => by rw [at_rep hx]; simp, fun b hb => absurd hb (by omega), fun x hx => by rw [at_rep hx]; simp⟩
theorem Frm.skip {c : Code} {fr : List (List Int)} {k : Nat} (h : Frm c fr k) (hr : at' (reachL c) k = false) : Frm c fr (k + 1) :=
  ⟨h.len, h.ok, fun b hb hl hbr => by
    rcases Nat.lt_or_ge b k with h1 | h1
    · exact h.all b h1 hl hbr
    · obtain rfl : b = k := by omega
      rw [hr] at hbr; exact absurd hbr (by decide), fun x hx => by have := h.sz x hx; omega⟩
theorem Frm.go {c : Code} {fr : List (List Int)} {k : Nat} (h : Frm c fr k) : FrmI c fr k 0 := ⟨h.len, h.ok, h.all, by simp, h.sz⟩
theorem FrmI.out {c : Code} {fr : List (List Int)} {k i : Nat} (h : FrmI c fr k i) (hi : (succT (at' c.b k).t).length = i) : Frm c fr (k + 1) :=
  ⟨h.len, h.ok, fun b hb hl hbr => by
    rcases Nat.lt_or_ge b k with h1 | h1
    · exact h.all b h1 hl hbr
    · obtain rfl : b = k := by omega
      intro s hs
      exact h.dn s (by rw [← hi, List.take_length]; exact hs), fun x hx => by have := h.sz x hx; have := succT_len (at' c.b k).t; omega⟩
theorem FrmI.add {c : Code} (hf : Fit c) {fr : List (List Int)} {k i : Nat} (h : FrmI c fr k i) (hk : k < c.b.length) (hr : at' (reachL c) k = true) (hi : i < (succT (at' c.b k).t).length) : FrmI c (fr.set (at' (succT (at' c.b k).t) i).toNat (at' fr (at' (succT (at' c.b k).t) i).toNat ++ [(k : Int)])) k (i + 1) := by
  have hto := hf.to _ (show at' c.b k ∈ c.b by simp [at', hk]) (at' (succT (at' c.b k).t) i) (mem_at.2 ⟨i, hi, rfl⟩)
  generalize hs : at' (succT (at' c.b k).t) i = s at *
  have hat : ∀ j, at' (fr.set s.toNat (at' fr s.toNat ++ [(k : Int)])) j = if j = s.toNat then at' fr s.toNat ++ [(k : Int)] else at' fr j := fun j => at_set (by rw [h.len]; omega)
  have grow : ∀ j b, b ∈ at' fr j → b ∈ at' (fr.set s.toNat (at' fr s.toNat ++ [(k : Int)])) j := by
    intro j b hb
    rw [hat]; split
    · rename_i e; subst e; simp [hb]
    · exact hb
  refine ⟨by rw [List.length_set]; exact h.len, fun x hx b hb => ?_, fun b hb hl hbr s' hs' => grow _ _ (h.all b hb hl hbr s' hs'), fun s' hs' => ?_, fun x hx => ?_⟩
  · rw [hat] at hb
    split at hb
    · rcases List.mem_append.1 hb with hb | hb
      · exact h.ok _ (by omega) b hb
      · simp at hb; subst hb
        exact ⟨by omega, by omega, by rw [Int.toNat_natCast]; exact hr⟩
    · exact h.ok x hx b hb
  · rw [take_succ hi, List.mem_append, List.mem_singleton] at hs'
    rcases hs' with hs' | hs'
    · exact grow _ _ (h.dn s' hs')
    · rw [hs', hs, hat, if_pos rfl]; simp
  · rw [hat]; split
    · rw [List.length_append, List.length_singleton]
      have := h.sz s.toNat (by omega)
      omega
    · have := h.sz x hx; omega

structure Wk (c : Code) (x : Live) (todo : List Int) : Prop where
  way : Way c x
  td : ∀ b ∈ todo, 0 ≤ b ∧ b < c.b.length ∧ at' (reachL c) b.toNat = true
  fx : ∀ b, b < c.b.length → at' (reachL c) b = true → (b : Int) ∉ todo → at' x.out b = neededI (at' c.b b).t x.in_ ∧ at' x.in_ b = atI (at' c.b b).i (at' x.out b) 0
def wkM (c : Code) (x : Live) (todo : List Int) : Nat := (512 * c.b.length - tot x) * (2 * c.b.length + 1) + todo.length
theorem wkM_le {c : Code} {x : Live} {todo : List Int} (hn : c.b.length ≤ 2 ^ 16) (h : todo.length ≤ 2 ^ 16) : wkM c x todo ≤ 2 ^ 43 := by
  have : (512 * c.b.length - tot x) * (2 * c.b.length + 1) ≤ (512 * 2 ^ 16) * (2 * 2 ^ 16 + 1) := Nat.mul_le_mul (by omega) (by omega)
  unfold wkM; omega
theorem wkM_len {c : Code} {x : Live} {todo : List Int} : todo.length ≤ wkM c x todo := by unfold wkM; omega
theorem Wk.done {c : Code} {x : Live} (h : Wk c x []) : Least c x := h.way.least fun b hb hr => h.fx b hb hr (by simp)
theorem Wk.start {c : Code} {todo : List Int} (h1 : ∀ b ∈ todo, 0 ≤ b ∧ b < c.b.length ∧ at' (reachL c) b.toNat = true) (h2 : ∀ b : Nat, b < c.b.length → at' (reachL c) b = true → (b : Int) ∈ todo) : Wk c ⟨List.replicate c.b.length [], List.replicate c.b.length []⟩ todo :=
  ⟨Way.start c, h1, fun b hb hr hn => absurd (h2 b hb hr) hn⟩
theorem oneB_in {c : Code} {x : Live} (h : Way c x) {b : Nat} (hb : b < c.b.length) (j : Nat) : at' (oneB c x b).in_ j = if j = b then atI (at' c.b b).i (neededI (at' c.b b).t x.in_) 0 else at' x.in_ j := at_set (by rw [h.li]; exact hb)
theorem oneB_out {c : Code} {x : Live} (h : Way c x) {b : Nat} (hb : b < c.b.length) (j : Nat) : at' (oneB c x b).out j = if j = b then neededI (at' c.b b).t x.in_ else at' x.out j := at_set (by rw [h.lo]; exact hb)
theorem neededI_congr {t : Term} {ls ms : List (List Int)} (h : ∀ s ∈ succT t, at' ls s.toNat = at' ms s.toNat) : neededI t ls = neededI t ms :=
  ext_pw (pw_neededI _ _) (pw_neededI _ _) fun r => ⟨neededI_mono (fun s hs r hr => by rw [← h s hs]; exact hr) r, neededI_mono (fun s hs r hr => by rw [h s hs]; exact hr) r⟩
theorem set_same {α : Type} [Enc α] {xs : List α} {k : Nat} {a : α} (h : k < xs.length) (e : at' xs k = a) : xs.set k a = xs := by
  refine ext_at (by simp) fun b hb => ?_
  rw [at_set h]
  split
  · rename_i e2; rw [e2, e]
  · rfl
theorem Wk.step {c : Code} (hf : Fit c) {x : Live} {todo : List Int} {k : Nat} (h : Wk c x todo) (hk : todo.length = k + 1) {fr : List (List Int)} (hfr : Frm c fr c.b.length) :
    let b := (at' todo k).toNat
    (b < c.b.length ∧ at' (reachL c) b = true) ∧
    (at' x.in_ b = atI (at' c.b b).i (neededI (at' c.b b).t x.in_) 0 → Wk c (oneB c x b) (todo.take k) ∧ wkM c (oneB c x b) (todo.take k) < wkM c x todo ∧ (oneB c x b).in_ = x.in_) ∧
    (at' x.in_ b ≠ atI (at' c.b b).i (neededI (at' c.b b).t x.in_) 0 → Wk c (oneB c x b) (todo.take k ++ at' fr b) ∧ wkM c (oneB c x b) (todo.take k ++ at' fr b) < wkM c x todo) := by
  intro b
  have hmem : at' todo k ∈ todo := by simp [at', hk]
  obtain ⟨hb0, hb1, hbr⟩ := h.td _ hmem
  have hb : b < c.b.length := by omega
  have hcast : (b : Int) = at' todo k := by omega
  have hW := (h.way.one hf hb hbr).1
  have hT := one_tot hf h.way hb hbr
  have hT2 := hW.tot hf.rg.2
  have hT1 := h.way.tot hf.rg.2
  have hsplit : ∀ j : Int, j ∈ todo → j ∈ todo.take k ∨ j = (b : Int) := fun j hj => by
    have e : todo = todo.take k ++ [at' todo k] := by rw [← take_succ (by omega), ← hk, List.take_length]
    rw [e, List.mem_append, List.mem_singleton] at hj
    rw [hcast]; exact hj
  have htl : (todo.take k).length = k := by rw [List.length_take]; omega
  refine ⟨⟨hb, hbr⟩, fun he => ?_, fun hne => ?_⟩
  · have hin : (oneB c x b).in_ = x.in_ := set_same (by rw [h.way.li]; exact hb) he
    refine ⟨⟨hW, fun j hj => h.td j (List.mem_of_mem_take hj), fun j hj hjr hjt => ?_⟩, ?_, hin⟩
    · rw [hin]
      by_cases e : j = b
      · subst e
        rw [oneB_out h.way hb, if_pos rfl]
        exact ⟨rfl, he⟩
      · rw [oneB_out h.way hb, if_neg e]
        refine h.fx j hj hjr fun hj2 => ?_
        rcases hsplit _ hj2 with h1 | h1
        · exact hjt h1
        · exact e (by omega)
    · unfold wkM
      have : (512 * c.b.length - tot (oneB c x b)) * (2 * c.b.length + 1) ≤ (512 * c.b.length - tot x) * (2 * c.b.length + 1) := Nat.mul_le_mul_right _ (by omega)
      omega
  · have hlt : tot x < tot (oneB c x b) := by
      refine hT.2.1 (.inr ?_)
      rcases Nat.lt_or_ge (at' x.in_ b).length (atI (at' c.b b).i (neededI (at' c.b b).t x.in_) 0).length with h1 | h1
      · exact h1
      · exact absurd (eq_of_sub (h.way.ok b hb).1.2 (pw_atI (pw_neededI _ _)) (h.way.one hf hb hbr).2.2 h1) hne
    refine ⟨⟨hW, fun j hj => ?_, fun j hj hjr hjt => ?_⟩, ?_⟩
    · rcases List.mem_append.1 hj with hj | hj
      · exact h.td j (List.mem_of_mem_take hj)
      · exact hfr.ok b hb j hj
    · rw [List.mem_append, not_or] at hjt
      have hns : ∀ s ∈ succT (at' c.b j).t, s.toNat ≠ b := fun s hs e => hjt.2 (by rw [← e]; exact hfr.all j hj hj hjr s hs)
      have hN : neededI (at' c.b j).t (oneB c x b).in_ = neededI (at' c.b j).t x.in_ := neededI_congr fun s hs => by rw [oneB_in h.way hb, if_neg (hns s hs)]
      rw [hN]
      by_cases e : j = b
      · subst e
        rw [oneB_out h.way hb, if_pos rfl, oneB_in h.way hb, if_pos rfl]
        exact ⟨rfl, rfl⟩
      · rw [oneB_out h.way hb, if_neg e, oneB_in h.way hb, if_neg e]
        refine h.fx j hj hjr fun hj2 => ?_
        rcases hsplit _ hj2 with h1 | h1
        · exact hjt.1 h1
        · exact e (by omega)
    · unfold wkM
      have hsz := hfr.sz b hb
      rw [List.length_append, htl, hk]
      have h1 : (512 * c.b.length - tot x) = (512 * c.b.length - tot (oneB c x b)) + (tot (oneB c x b) - tot x) := by omega
      have h2 : (512 * c.b.length - tot (oneB c x b) + 1) * (2 * c.b.length + 1) ≤ (512 * c.b.length - tot x) * (2 * c.b.length + 1) := Nat.mul_le_mul_right _ (by omega)
      rw [Nat.add_mul, Nat.one_mul] at h2
      omega
end Go.Ab
namespace Go.Ab
abbrev rO (n : Int) : Opd := ⟨2, n, 0⟩
abbrev kO (v : Int) : Opd := ⟨1, 0, v⟩
abbrev zO : Opd := ⟨0, 0, 0⟩
def exC : Code := ⟨2, 1, 2, 0, 0, [⟨⟨#[97]⟩, 1, 1, 4⟩], [], [⟨[⟨1, 0, 0, rO 0, kO 1, zO, zO⟩, ⟨3, 10, 0, rO 1, rO 0, rO 0, zO⟩], ⟨2, 0, zO, rO 1, zO, 1, 2⟩⟩, ⟨[⟨1, 0, 0, rO 0, kO 2, zO, zO⟩], ⟨1, 0, zO, zO, zO, 2, 0⟩⟩, ⟨[⟨8, 0, 0, zO, rO 0, rO 1, zO⟩], ⟨5, 0, zO, zO, zO, 0, 0⟩⟩]⟩
def exX : Live := ⟨[[], [1], [0, 1]], [[0, 1], [0, 1], []]⟩
def exBad : Live := ⟨[[], [], [0, 1]], [[0, 1], [0, 1], []]⟩
theorem ex_fit : Fit exC := by
  refine ⟨by decide, ?_, ?_, by decide, ?_, ?_⟩
  · intro b hb; simp only [exC, List.mem_cons, List.not_mem_nil, or_false] at hb; rcases hb with rfl | rfl | rfl <;> decide
  · intro b hb; simp only [exC, List.mem_cons, List.not_mem_nil, or_false] at hb; rcases hb with rfl | rfl | rfl <;> decide
  · intro b hb; simp only [exC, List.mem_cons, List.not_mem_nil, or_false] at hb; rcases hb with rfl | rfl | rfl <;> decide
  · intro b hb; simp only [exC, List.mem_cons, List.not_mem_nil, or_false] at hb; rcases hb with rfl | rfl | rfl <;> decide
theorem ex_least : Least exC exX := by
  have h0 := Way.start exC
  have h1 := (h0.one ex_fit (b := 2) (by decide +kernel) (by decide +kernel)).1
  have h2 := (h1.one ex_fit (b := 1) (by decide +kernel) (by decide +kernel)).1
  have h3 := (h2.one ex_fit (b := 0) (by decide +kernel) (by decide +kernel)).1
  have e : oneB exC (oneB exC (oneB exC ⟨List.replicate exC.b.length [], List.replicate exC.b.length []⟩ 2) 1) 0 = exX := by kernel_rfl
  rw [e] at h3
  exact h3.least (by decide +kernel)
theorem ex_closed : ClosedI exC exX := by decide +kernel
theorem ex_bad : ¬ ClosedI exC exBad := by decide +kernel
theorem ex_none : ¬ ClosedI exC ⟨[], []⟩ := by decide +kernel
theorem ex_press : press exC exX = 2 := by decide +kernel

theorem union_sub {l m : List Int} (hl : ∀ r ∈ l, 0 ≤ r ∧ r < 256) (hm : ∀ r ∈ m, r < 256) : unionB (ofB l) (ofB m) = ofB m ↔ ∀ r ∈ l, r ∈ m := by
  have hl2 : ∀ r ∈ l, r < 256 := fun r hr => (hl r hr).2
  constructor
  · intro h r hr
    have := hl r hr
    have e : hasB (unionB (ofB l) (ofB m)) r.toNat = hasB (ofB m) r.toNat := by rw [h]
    rw [hasB_union (by omega), hasB_of hl2 (by omega), hasB_of hm (by omega), show ((r.toNat : Nat) : Int) = r by omega] at e
    simpa [hr] using e
  · intro h
    refine BS.eq fun n hn => ?_
    rw [hasB_union hn, hasB_of hl2 hn, hasB_of hm hn, Bool.eq_iff_iff]
    simp only [Bool.or_eq_true, decide_eq_true_eq]
    exact ⟨fun h1 => h1.elim (h _) id, .inr⟩
def BadB (c : Code) (x : Live) (b : Nat) : Prop := at' (reachL c) b = true ∧ ¬ ((∀ r ∈ neededI (at' c.b b).t x.in_, r ∈ at' x.out b) ∧ ∀ r ∈ atI (at' c.b b).i (at' x.out b) 0, r ∈ at' x.in_ b)
structure LiOks (c : Code) (x : Live) : Prop where
  li : x.in_.length = c.b.length
  lo : x.out.length = c.b.length
  ok : ∀ b, b < c.b.length → LiOk c.regs (at' x.in_ b) ∧ LiOk c.regs (at' x.out b)
theorem Least.oks {c : Code} {x : Live} (h : Least c x) : LiOks c x := ⟨h.li, h.lo, h.ok⟩
theorem Least.closed {c : Code} {x : Live} (h : Least c x) : ClosedI c x := ⟨h.li, h.lo, h.ok, h.clo⟩
theorem LiOks.closed {c : Code} {x : Live} (h : LiOks c x) (hb : ∀ b, b < c.b.length → ¬ BadB c x b) : ClosedI c x :=
  ⟨h.li, h.lo, h.ok, fun b hl hr => Decidable.of_not_not fun hn => hb b hl ⟨hr, hn⟩⟩
theorem BadB.no {c : Code} {x : Live} {b : Nat} (h : BadB c x b) (hb : b < c.b.length) : ¬ ClosedI c x := fun hc => h.2 (hc.2.2.2 b hb h.1)
theorem mem_oks {c : Code} {x : Live} (h1 : ∀ l ∈ x.in_, LiOk c.regs l) (h2 : ∀ l ∈ x.out, LiOk c.regs l) (h3 : x.in_.length = c.b.length) (h4 : x.out.length = c.b.length) : LiOks c x :=
  ⟨h3, h4, fun b hb => ⟨h1 _ (by simp [at', h3, hb]), h2 _ (by simp [at', h4, hb])⟩⟩
theorem oks_mem {c : Code} {x : Live} (h : LiOks c x) : (∀ l ∈ x.in_, LiOk c.regs l) ∧ ∀ l ∈ x.out, LiOk c.regs l := by
  constructor
  · intro l hl
    obtain ⟨i, hi, rfl⟩ := List.mem_iff_getElem.1 hl
    have := (h.ok i (by rw [← h.li]; exact hi)).1
    simpa [at', hi] using this
  · intro l hl
    obtain ⟨i, hi, rfl⟩ := List.mem_iff_getElem.1 hl
    have := (h.ok i (by rw [← h.lo]; exact hi)).2
    simpa [at', hi] using this
theorem LiOks.chk1 {c : Code} (hf : Fit c) {x : Live} (h : LiOks c x) {b : Nat} (hb : b < c.b.length) : unionB (neededB (at' c.b b).t (x.in_.map ofB)) (at' (x.out.map ofB) b) = at' (x.out.map ofB) b ↔ ∀ r ∈ neededI (at' c.b b).t x.in_, r ∈ at' x.out b := by
  have hm : at' c.b b ∈ c.b := by simp [at', hb]
  have hto := hf.to _ hm
  have hlt : ∀ s ∈ succT (at' c.b b).t, LiOk c.regs (at' x.in_ s.toNat) := fun s hs => (h.ok _ (by have := hto s hs; omega)).1
  have hN : LiOk c.regs (neededI (at' c.b b).t x.in_) := LiOk.needed hlt (hf.rt _ hm).2.1
  rw [neededB_of (fun s hs => by have := hto s hs; rw [h.li]; exact this) (hf.u hb).2.1 (hf.u hb).2.2 (fun s hs => (hlt s hs).lt hf.rg.2), at_map (by rw [h.lo]; exact hb)]
  exact union_sub (hN.w hf.rg.2).1 ((h.ok b hb).2.lt hf.rg.2)
theorem LiOks.chk2 {c : Code} (hf : Fit c) {x : Live} (h : LiOks c x) {b : Nat} (hb : b < c.b.length) : unionB (atB (at' c.b b).i (at' (x.out.map ofB) b) 0) (at' (x.in_.map ofB) b) = at' (x.in_.map ofB) b ↔ ∀ r ∈ atI (at' c.b b).i (at' x.out b) 0, r ∈ at' x.in_ b := by
  have hm : at' c.b b ∈ c.b := by simp [at', hb]
  have hA : LiOk c.regs (atI (at' c.b b).i (at' x.out b) 0) := (h.ok b hb).2.at fun i hi => (hf.rd _ hm i hi).2.1
  rw [at_map (by rw [h.lo]; exact hb), at_map (by rw [h.li]; exact hb), atB_of (hf.u hb).1 ((h.ok b hb).2.lt hf.rg.2)]
  exact union_sub (hA.w hf.rg.2).1 ((h.ok b hb).1.lt hf.rg.2)

theorem listB_at {c : Code} (hf : Fit c) {b : Nat} (hb : b < c.b.length) {l : List Int} (hl : LiOk c.regs l) (k : Nat) : listB (atB (at' c.b b).i (ofB l) k) = atI (at' c.b b).i l k := by
  have hm : at' c.b b ∈ c.b := by simp [at', hb]
  rw [atB_of (hf.u hb).1 (hl.lt hf.rg.2), listB_ofB ((hl.at fun i hi => (hf.rd _ hm i hi).2.1).w hf.rg.2)]

theorem withI_ok {regs : Int} {l : List Int} (hl : LiOk regs l) {n : Int} (hn : n < regs) : LiOk regs (withI l n) := by
  unfold withI
  split
  · exact hl
  · refine ⟨fun r hr => ?_, pw_unionI hl.2⟩
    rcases mem_unionI.1 hr with h | h
    · exact hl.1 r h
    · simp at h; subst h; omega
theorem withB_of {l : List Int} {n : Int} (hl : LiOk 256 l) (hn : n < 256) : withB (ofB l) n = ofB (withI l n) := by
  have hw := withI_ok hl hn
  refine BS.eq fun m hm => ?_
  rw [hasB_with hn hm, hasB_of (hl.lt (by omega)) hm, hasB_of (hw.lt (by omega)) hm, Bool.eq_iff_iff, Bool.or_eq_true, decide_eq_true_eq, decide_eq_true_eq, decide_eq_true_eq]
  unfold withI
  split
  · constructor
    · rintro (h | h)
      · exact h
      · omega
    · exact .inl
  · rw [mem_unionI, List.mem_singleton]
    constructor
    · rintro (h | h)
      · exact .inl h
      · exact .inr h.symm
    · rintro (h | h)
      · exact .inl h
      · exact .inr h.symm
theorem size_with {l : List Int} {n : Int} (hl : LiOk 256 l) (hn : n < 256) : (listB (withB (ofB l) n)).length = (withI l n).length := by
  rw [withB_of hl hn, listB_ofB (withI_ok hl hn)]
theorem foldl_max {f : Nat → Int} : ∀ (ks : List Nat) (a v : Int), ks.foldl (fun m i => max m (f i)) a ≤ v ↔ a ≤ v ∧ ∀ i ∈ ks, f i ≤ v
  | [], a, v => by simp
  | k :: ks, a, v => by
    rw [List.foldl_cons, foldl_max ks]
    simp only [List.mem_cons, forall_eq_or_imp]
    constructor
    · rintro ⟨h1, h2⟩; exact ⟨by omega, by omega, h2⟩
    · rintro ⟨h1, h2, h3⟩; exact ⟨by omega, h3⟩
def backM (f : Nat → Int) (n : Nat) (a : Int) (k : Nat) : Int := ((List.range n).drop k).foldl (fun m i => max m (f i)) a
theorem backM_end {f : Nat → Int} {n : Nat} {a : Int} : backM f n a n = a := by unfold backM; rw [List.drop_eq_nil_of_le (by simp)]; rfl
theorem backM_zero {f : Nat → Int} {n : Nat} {a : Int} : backM f n a 0 = (List.range n).foldl (fun m i => max m (f i)) a := rfl
theorem backM_step {f : Nat → Int} {n : Nat} {a : Int} {k : Nat} (h : k < n) : backM f n a k = max (backM f n a (k + 1)) (f k) := by
  have e : (List.range n).drop k = k :: (List.range n).drop (k + 1) := by
    rw [List.drop_eq_getElem_cons (by simpa using h)]; simp
  have key : ∀ v, backM f n a k ≤ v ↔ max (backM f n a (k + 1)) (f k) ≤ v := fun v => by
    have h1 : backM f n a k ≤ v ↔ a ≤ v ∧ ∀ i ∈ (List.range n).drop k, f i ≤ v := foldl_max _ _ _
    have h2 : backM f n a (k + 1) ≤ v ↔ a ≤ v ∧ ∀ i ∈ (List.range n).drop (k + 1), f i ≤ v := foldl_max _ _ _
    rw [h1, e, Int.max_le, h2]
    simp only [List.mem_cons, forall_eq_or_imp]
    constructor
    · rintro ⟨h1, h2, h3⟩; exact ⟨⟨h1, h3⟩, h2⟩
    · rintro ⟨⟨h1, h3⟩, h2⟩; exact ⟨h1, h2, h3⟩
  exact Int.le_antisymm ((key _).2 (Int.le_refl _)) ((key _).1 (Int.le_refl _))
end Go.Ab
namespace Go.Ab
theorem at_memG {α : Type} [Enc α] {xs : List α} {k : Nat} (h : k < xs.length) : at' xs k ∈ xs := by simp [at', h]
structure Raw where
  b : List U8
instance : Enc Raw := ⟨1, fun r => .agg [lst false r.b], ⟨[]⟩, fun _ => rfl, fun r => .agg fun c hc => by
  simp only [List.mem_cons, List.not_mem_nil, or_false] at hc; subst hc; exact lst_cl _, fun _ => rfl, by decide⟩
theorem fold_le {f : Int → Nat → Int} {P : Nat → Int → Prop} (h : ∀ m b v, f m b ≤ v ↔ m ≤ v ∧ P b v) : ∀ (l : List Nat) (a v : Int), l.foldl f a ≤ v ↔ a ≤ v ∧ ∀ b ∈ l, P b v
  | [], a, v => by simp
  | b :: l, a, v => by
    rw [List.foldl_cons, fold_le h l, h]
    simp only [List.mem_cons, forall_eq_or_imp]
    exact ⟨fun ⟨⟨h1, h2⟩, h3⟩ => ⟨h1, h2, h3⟩, fun ⟨h1, h2, h3⟩ => ⟨⟨h1, h2⟩, h3⟩⟩
def PB (c : Code) (x : Live) (b : Nat) (v : Int) : Prop := at' (reachL c) b = true → ((at' x.in_ b).length : Int) ≤ v ∧ ((at' x.out b).length : Int) ≤ v ∧ (∀ i, i < (at' c.b b).i.length → ((withI (atI (at' c.b b).i (at' x.out b) (i + 1)) (dfn (at' (at' c.b b).i i))).length : Int) ≤ v) ∧ (0 ≤ dfnT (at' c.b b).t → ((withI (at' x.in_ (at' c.b b).t.to0.toNat) (dfnT (at' c.b b).t)).length : Int) ≤ v)
theorem pressB_le {c : Code} {x : Live} (m : Int) (b : Nat) (v : Int) : pressB c x m b ≤ v ↔ m ≤ v ∧ PB c x b v := by
  unfold pressB PB
  have key : ∀ a, (List.range (at' c.b b).i.length).foldl (fun m i => max m ((withI (atI (at' c.b b).i (at' x.out b) (i + 1)) (dfn (at' (at' c.b b).i i))).length : Int)) a ≤ v ↔ a ≤ v ∧ ∀ i, i < (at' c.b b).i.length → ((withI (atI (at' c.b b).i (at' x.out b) (i + 1)) (dfn (at' (at' c.b b).i i))).length : Int) ≤ v := fun a => by
    rw [foldl_max]; simp only [List.mem_range]
  split
  · rename_i hr
    simp only [hr, forall_const]
    split
    · rename_i hd
      simp only [hd, forall_const]
      rw [Int.max_le, key, Int.max_le, Int.max_le]
      exact ⟨fun ⟨⟨⟨⟨h1, h2⟩, h3⟩, h4⟩, h5⟩ => ⟨h1, h2, h3, h4, h5⟩, fun ⟨h1, h2, h3, h4, h5⟩ => ⟨⟨⟨⟨h1, h2⟩, h3⟩, h4⟩, h5⟩⟩
    · rename_i hd
      rw [key, Int.max_le, Int.max_le]
      exact ⟨fun ⟨⟨⟨h1, h2⟩, h3⟩, h4⟩ => ⟨h1, h2, h3, h4, fun h => absurd h hd⟩, fun ⟨h1, h2, h3, h4, _⟩ => ⟨⟨⟨h1, h2⟩, h3⟩, h4⟩⟩
  · rename_i hr
    simp [hr]
theorem press_le {c : Code} {x : Live} {v : Int} : press c x ≤ v ↔ 0 ≤ v ∧ ∀ b, b < c.b.length → PB c x b v := by
  unfold press
  rw [fold_le pressB_le]
  simp only [List.mem_range]
theorem press_pos {c : Code} {x : Live} : 0 ≤ press c x := (press_le.1 (Int.le_refl _)).1
theorem press_at {c : Code} {x : Live} {b : Nat} (hb : b < c.b.length) : PB c x b (press c x) := (press_le.1 (Int.le_refl _)).2 b hb
theorem Least.press {c : Code} {y : Live} (h : Least c y) {b : Nat} (hb : b < c.b.length) : ((at' y.in_ b).length : Int) ≤ Ab.press c y ∧ ((at' y.out b).length : Int) ≤ Ab.press c y := by
  cases hr : at' (reachL c) b with
  | true =>
    have := press_at (x := y) hb hr
    exact ⟨this.1, this.2.1⟩
  | false =>
    obtain ⟨h1, h2⟩ := h.un b hb hr
    rw [h1, h2]
    have := press_pos (c := c) (x := y)
    exact ⟨this, this⟩
theorem LiOk.len_le {regs : Int} {l : List Int} (h : LiOk regs l) (hr : 0 ≤ regs) : (l.length : Int) ≤ regs := by
  have := inc_len l 0 regs h.2 h.1
  omega
theorem LiOks.press_le {c : Code} (hf : Fit c) {x : Live} (h : LiOks c x) : Ab.press c x ≤ c.regs := by
  have hr := hf.rg.1
  refine Ab.press_le.2 ⟨hr, fun b hb hre => ?_⟩
  have hm : at' c.b b ∈ c.b := by simp [at', hb]
  obtain ⟨h1, h2⟩ := h.ok b hb
  refine ⟨h1.len_le hr, h2.len_le hr, fun i hi => ?_, fun hd => ?_⟩
  · have hd := hf.rd _ hm _ (at_memG hi)
    exact (withI_ok (h2.at fun i hi => (hf.rd _ hm i hi).2.1) hd.1).len_le hr
  · have hk : (at' c.b b).t.d.kind = 2 := by
      unfold dfnT opdReg at hd
      split at hd
      · assumption
      · omega
    have ht := (hf.rt _ hm).2.2.2 hk
    exact (withI_ok (h.ok _ (by omega)).1 (hf.rt _ hm).1).len_le hr
theorem withI_mono {l m : List Int} {n : Int} (h : ∀ r ∈ l, r ∈ m) : ∀ r ∈ withI l n, r ∈ withI m n := fun r hr => by
  unfold withI at hr ⊢
  split
  · rename_i hn; rw [if_pos hn] at hr; exact h r hr
  · rename_i hn; rw [if_neg hn] at hr
    rcases mem_unionI.1 hr with h1 | h1
    · exact mem_unionI.2 (.inl (h r h1))
    · exact mem_unionI.2 (.inr h1)
theorem press_mono {c : Code} (hf : Fit c) {x y : Live} (hx : LiOks c x) (hy : LiOks c y) (h : ∀ b, b < c.b.length → (∀ r ∈ at' x.in_ b, r ∈ at' y.in_ b) ∧ ∀ r ∈ at' x.out b, r ∈ at' y.out b) : press c x ≤ press c y := by
  refine Ab.press_le.2 ⟨press_pos, fun b hb hre => ?_⟩
  have hm : at' c.b b ∈ c.b := by simp [at', hb]
  obtain ⟨p1, p2, p3, p4⟩ := press_at (x := y) hb hre
  obtain ⟨h1, h2⟩ := hx.ok b hb
  obtain ⟨k1, k2⟩ := hy.ok b hb
  obtain ⟨s1, s2⟩ := h b hb
  have l1 := sub_len h1.2 k1.2 s1
  have l2 := sub_len h2.2 k2.2 s2
  refine ⟨by omega, by omega, fun i hi => ?_, fun hd => ?_⟩
  · have hd := hf.rd _ hm _ (at_memG hi)
    have w1 := withI_ok (h2.at (k := i + 1) fun i hi => (hf.rd _ hm i hi).2.1) hd.1
    have w2 := withI_ok (k2.at (k := i + 1) fun i hi => (hf.rd _ hm i hi).2.1) hd.1
    have := sub_len w1.2 w2.2 (withI_mono (atI_mono s2))
    have := p3 i hi
    omega
  · have hk : (at' c.b b).t.d.kind = 2 := by
      unfold dfnT opdReg at hd
      split at hd
      · assumption
      · omega
    have ht := (hf.rt _ hm).2.2.2 hk
    have hb' : (at' c.b b).t.to0.toNat < c.b.length := by omega
    have w1 := withI_ok (hx.ok _ hb').1 (hf.rt _ hm).1
    have w2 := withI_ok (hy.ok _ hb').1 (hf.rt _ hm).1
    have := sub_len w1.2 w2.2 (withI_mono (h _ hb').1)
    have := p4 hd
    omega
theorem union_ok {regs : Int} {l ks : List Int} (h : LiOk regs l) (hk : ∀ k ∈ ks, 0 ≤ k ∧ k < regs) : LiOk regs (unionI l ks) := by
  refine ⟨fun r hr => ?_, pw_unionI h.2⟩
  rcases mem_unionI.1 hr with h1 | h1
  · exact h.1 r h1
  · exact hk r h1
structure Plus (c : Code) (ks : List Int) (y x : Live) : Prop where
  kr : ∀ k ∈ ks, 0 ≤ k ∧ k < c.regs
  li : x.in_.length = c.b.length
  lo : x.out.length = c.b.length
  eq : ∀ b, b < c.b.length → at' x.in_ b = unionI (at' y.in_ b) ks ∧ at' x.out b = unionI (at' y.out b) ks
theorem Plus.oks {c : Code} {ks : List Int} {y x : Live} (h : Plus c ks y x) (hy : LiOks c y) : LiOks c x :=
  ⟨h.li, h.lo, fun b hb => by rw [(h.eq b hb).1, (h.eq b hb).2]; exact ⟨union_ok (hy.ok b hb).1 h.kr, union_ok (hy.ok b hb).2 h.kr⟩⟩
theorem Plus.sub {c : Code} {ks : List Int} {y x : Live} (h : Plus c ks y x) : ∀ b, b < c.b.length → (∀ r ∈ at' y.in_ b, r ∈ at' x.in_ b) ∧ ∀ r ∈ at' y.out b, r ∈ at' x.out b := fun b hb => by
  rw [(h.eq b hb).1, (h.eq b hb).2]
  exact ⟨fun r hr => mem_unionI.2 (.inl hr), fun r hr => mem_unionI.2 (.inl hr)⟩
theorem Plus.closed {c : Code} (hf : Fit c) {ks : List Int} {y x : Live} (h : Plus c ks y x) (hy : Least c y) : ClosedI c x := by
  refine ⟨h.li, h.lo, (h.oks hy.oks).ok, fun b hb hr => ?_⟩
  have hm : at' c.b b ∈ c.b := by simp [at', hb]
  obtain ⟨f1, f2⟩ := hy.fx b hb hr
  rw [(h.eq b hb).1, (h.eq b hb).2]
  refine ⟨fun r hn => ?_, fun r hn => ?_⟩
  · rcases mem_neededI.1 hn with ⟨⟨s, hs, h1⟩, h2⟩ | h1
    · have hto := hf.to _ hm s hs
      rw [(h.eq _ (by omega)).1] at h1
      rcases mem_unionI.1 h1 with h3 | h3
      · exact mem_unionI.2 (.inl (by rw [f1]; exact mem_neededI.2 (.inl ⟨⟨s, hs, h3⟩, h2⟩)))
      · exact mem_unionI.2 (.inr h3)
    · exact mem_unionI.2 (.inl (by rw [f1]; exact mem_neededI.2 (.inr h1)))
  · have key : ∀ (is : List Inst) (l : List Int) (r : Int), r ∈ is.foldr beforeI (unionI l ks) → r ∈ is.foldr beforeI l ∨ r ∈ ks := by
      intro is l
      induction is with
      | nil => intro r hr; exact mem_unionI.1 hr
      | cons i is ih =>
        intro r hr
        rcases mem_beforeI.1 hr with ⟨h1, h2⟩ | h1
        · rcases ih r h1 with h3 | h3
          · exact .inl (mem_beforeI.2 (.inl ⟨h3, h2⟩))
          · exact .inr h3
        · exact .inl (mem_beforeI.2 (.inr h1))
    rcases key _ _ r hn with h1 | h1
    · exact mem_unionI.2 (.inl (by rw [f2]; exact h1))
    · exact mem_unionI.2 (.inr h1)
end Go.Ab
