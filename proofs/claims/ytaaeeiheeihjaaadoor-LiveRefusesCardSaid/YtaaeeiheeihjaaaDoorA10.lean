/- The road to a card of this seat: Row, Law0, Nest, Mk, T13, Mk2, Mk3. Each theorem holds for every input that its own premises speak of. -/
import Derived.Test.YtaaeeiheeihjaaaDoorA9
import Derived.Test.YtaaeeiheeihjaaaDoorRows
import Derived.Below
import Derived.ChangeSame
import Derived.ChangeShapes
import Derived.ChangeSlices
import Derived.WideKeyArgs
import Derived.LaidLaws
import Derived.LaidMore
import Derived.OpenShut
import Derived.Stop.Joined
import Derived.ProofKit
import Derived.Lib.LaidTab
import Derived.SizedLaws
import Derived.Test.YtaaeeiheeihjaaaDoorTie
import Derived.Test.YtaaeeiheeihjaaaDoorCards
import Derived.SevenTiedAt
set_option linter.all false
namespace Go.Ab
open Go.Proofs Go.ChangeShapes Go.WideShapes Go.ChangeAt Go.RowKit
theorem pu_calls {k : FuncId} {ts : List TV} (h : Pu Tryd.prog k ts (Eq (tb true))) {H : Heap} {ρ : Ren} {W : World} {vs : List Value} {args' : Array Value} (hrel : Rel Tryd.prog ρ H W) (hro : ∀ (b : Nat) (B : Blk), H[b]? = some (some B) → B.ro = true) (hgl : GlOk (Gl.tb Tryd.prog) H (fun _ => False) []) (hv : VRs H (fun _ => False) [] ts vs) (ha : All2 (VRel ρ) vs args'.toList) :
    Calls Tryd.prog k args' W fun e W' => e = .returned (.bool true) ∧ Below W.heap.size W W' := by
  obtain ⟨v, G', ⟨n, hn⟩, hfr, r, hvr, rfl⟩ := h H (fun _ => False) vs (fun b hb => hb.elim) hgl hv
  have hvt := hvr.flat_eq
  subst hvt
  have hm : Tryd.prog.follows .mixedOrders = true := by kernel_rfl
  refine ((call_sim hm noPrim_sim n) k ⟨vs⟩ H _ G' hn ρ W args' hrel ha).2.mono ?_
  rintro e w' ⟨v', ρ', he, hvv, hr', hx⟩
  have hv' : v' = .bool true := hvv.flat_eq rfl
  subst hv'
  refine ⟨he, hx.os, hx.tape, hx.output, hx.wsize, fun k hk => hx.keep k hk ?_⟩
  rintro ⟨b, B, l, h1, h2, _⟩
  rw [hro b B h1] at h2; cases h2
def tabZs : List Int := [0, 1, 56, 2, 57, 49, 28, 3, 61, 58, 42, 50, 38, 29, 17, 4, 62, 47, 59, 36, 45, 43, 51, 22, 53, 39, 33, 30, 24, 18, 12, 5, 63, 55, 48, 27, 60, 41, 37, 16, 46, 35, 44, 21, 52, 32, 23, 11, 54, 26, 40, 15, 34, 20, 31, 10, 25, 14, 19, 9, 13, 8, 7, 6]
def tabBlk : Blk := ⟨tabZs.map fun z => .int .u8 z, 147, true⟩
theorem gl_tab : Gl.tb Tryd.prog = some tabBlk := by kernel_rfl
theorem cell_heap {W : World} {b o : Nat} {v : Value} (h : W.cell? ⟨b, o, none⟩ = some v) : ∃ cs e fr, W.heap[b]? = some (.cells cs e fr) ∧ cs[o]? = some v := by
  unfold World.cell? at h
  split at h
  · rename_i cs e fr hb
    exact ⟨cs, e, fr, hb, h⟩
  · cases h
def ren0 : Ren := fun b => if b = 0 then some ⟨0, 0, 64, 64⟩ else none
def ren1 (l : Loc) : Ren := fun b => if b = 0 then some ⟨0, 0, 64, 64⟩ else if b = 1 then some l else none
theorem glob_tab {ρ : Ren} (h : ρ 0 = some ⟨0, 0, 64, 64⟩) : Glob Tryd.prog ρ := fun g hg => by
  have hs : Tryd.prog.globals.size = 1 := by kernel_rfl
  rw [hs] at hg
  obtain rfl : g = 0 := by omega
  exact ⟨_, h, rfl, rfl⟩
theorem size147 : sizeA Tryd.prog 147 = some 64 := by kernel_rfl
theorem size5 : sizeA Tryd.prog 5 = some 1 := by kernel_rfl
structure TabW (W : World) : Prop where
  at_ : ∀ i, i < 64 → W.cell? ⟨0, i, none⟩ = some (.int .u8 (tabZs.getD i 0))
theorem TabW.blk {W : World} (h : TabW W) : ∃ (cs : Array Value) (e : TypeId) (fr : Nat × Nat), W.heap[0]? = some (.cells cs e fr) ∧ 64 ≤ cs.size ∧ ∀ (i : Nat) (v : Value), tabBlk.cells[i]? = some v → cs[i]? = some v := by
  obtain ⟨cs, e, fr, hb, h0⟩ := cell_heap (h.at_ 63 (by decide))
  refine ⟨cs, e, fr, hb, ?_, fun i v hi => ?_⟩
  · have := (Array.getElem?_eq_some_iff.1 h0).1; omega
  · have hl : i < 64 := (List.getElem?_eq_some_iff.1 hi).1
    obtain ⟨cs2, e2, fr2, hb2, h2⟩ := cell_heap (h.at_ i hl)
    rw [hb] at hb2; cases hb2
    rw [h2]
    have : tabBlk.cells[i]? = (tabZs[i]?).map fun z => Value.int .u8 z := List.getElem?_map ..
    rw [this] at hi
    rw [List.getD_eq_getElem?_getD]
    cases hz : tabZs[i]? with
    | none => rw [hz] at hi; cases hi
    | some z => rw [hz] at hi; exact hi
theorem rel0 {W : World} (h : TabW W) : Rel Tryd.prog ren0 #[some tabBlk] W := by
  obtain ⟨cs, e, fr, hb, hs, hc⟩ := h.blk
  refine ⟨fun b B l hB hl => ?_, fun b c B C l m hB hC hl hm e => ?_, fun b l hl => ?_, glob_tab rfl⟩
  · unfold ren0 at hl
    split at hl
    · rename_i hb0; subst hb0; cases hl
      simp at hB; subst hB
      refine ⟨by decide, size147, cs, e, fr, hb, hs, fun h => (by cases h), fun i v hi => ⟨v, by rw [Nat.zero_add]; exact hc i v hi, ?_⟩⟩
      have : tabBlk.cells[i]? = (tabZs[i]?).map fun z => Value.int .u8 z := List.getElem?_map ..
      rw [this] at hi
      obtain ⟨z, _, rfl⟩ := Option.map_eq_some_iff.1 hi
      exact .base (.flat rfl)
    · cases hl
  · unfold ren0 at hl hm
    split at hl <;> split at hm
    · left; omega
    · cases hm
    · cases hl
    · cases hl
  · unfold ren0 at hl
    split at hl
    · rename_i hb0; subst hb0; cases hl
      exact ⟨by simp, (Array.getElem?_eq_some_iff.1 hb).1⟩
    · cases hl
theorem rel1 {W : World} (h : TabW W) {blk off cap : Nat} {zs : List Int} (hz : zs.length ≤ cap) (h0 : 0 < cap) (hc : ∀ i, i < cap → ∃ v, W.cell? ⟨blk, off + i, none⟩ = some v ∧ (i < zs.length → v = .int .u8 (zs.getD i 0))) :
    Rel Tryd.prog (ren1 ⟨blk, off, 1, off + cap⟩) #[some tabBlk, some ⟨zs.map fun z => .int .u8 z, 5, true⟩] W := by
  obtain ⟨cs, e, fr, hb, hs, hcs⟩ := h.blk
  obtain ⟨v1, hv1, _⟩ := hc (cap - 1) (by omega)
  obtain ⟨cs1, e1, fr1, hb1, hl1⟩ := cell_heap hv1
  have hsz : off + cap ≤ cs1.size := by have := (Array.getElem?_eq_some_iff.1 hl1).1; omega
  refine ⟨fun b B l hB hl => ?_, fun b c B C l m hB hC hl hm e => ?_, fun b l hl => ?_, glob_tab rfl⟩
  · unfold ren1 at hl
    split at hl
    · rename_i hb0; subst hb0; cases hl
      simp at hB; subst hB
      refine ⟨by decide, size147, cs, e, fr, hb, hs, fun h => (by cases h), fun i v hi => ⟨v, by rw [Nat.zero_add]; exact hcs i v hi, ?_⟩⟩
      have : tabBlk.cells[i]? = (tabZs[i]?).map fun z => Value.int .u8 z := List.getElem?_map ..
      rw [this] at hi
      obtain ⟨z, _, rfl⟩ := Option.map_eq_some_iff.1 hi
      exact .base (.flat rfl)
    · split at hl
      · rename_i hb1'; subst hb1'; cases hl
        simp at hB; subst hB
        refine ⟨by simp; omega, size5, cs1, e1, fr1, hb1, hsz, fun h => (by cases h), fun i v hi => ?_⟩
        have hi2 : (zs.map fun z => Value.int .u8 z)[i]? = some v := hi
        rw [List.getElem?_map] at hi2
        obtain ⟨z, hz1, rfl⟩ := Option.map_eq_some_iff.1 hi2
        have hil := (List.getElem?_eq_some_iff.1 hz1).1
        obtain ⟨v2, hv2, hv3⟩ := hc i (by omega)
        obtain ⟨cs2, e2, fr2, hb2, h2⟩ := cell_heap hv2
        rw [hb1] at hb2; cases hb2
        refine ⟨v2, h2, ?_⟩
        rw [hv3 hil, List.getD_eq_getElem?_getD, hz1]
        exact .base (.flat rfl)
      · cases hl
  · have ro : ∀ (b : Nat) (B : Blk), (#[some tabBlk, some ⟨zs.map fun z => .int .u8 z, 5, true⟩] : Heap)[b]? = some (some B) → B.ro = true := fun b B hB => by
      rcases b with _ | _ | b
      · simp at hB; subst hB; rfl
      · simp at hB; subst hB; rfl
      · simp at hB
    exact .inr ⟨ro b B hB, ro c C hC⟩
  · unfold ren1 at hl
    split at hl
    · rename_i hb0; subst hb0; cases hl
      exact ⟨by simp, (Array.getElem?_eq_some_iff.1 hb).1⟩
    · split at hl
      · rename_i hb1'; subst hb1'; cases hl
        exact ⟨by simp, (Array.getElem?_eq_some_iff.1 hb1).1⟩
      · cases hl
structure RawW (W : World) (v0 : Value) (L : List U8) (H : Heap) (ρ : Ren) (a0 : Value) : Prop where
  rel : Rel Tryd.prog ρ H W
  ro : ∀ (b : Nat) (B : Blk), H[b]? = some (some B) → B.ro = true
  gl : GlOk (Gl.tb Tryd.prog) H (fun _ => False) []
  vr : VR H (fun _ => False) [] (Enc.tv (⟨L⟩ : Raw)) a0
  va : VRel ρ a0 v0
theorem gl_ok {H : Heap} (h : H[0]? = some (some tabBlk)) : GlOk (Gl.tb Tryd.prog) H (fun _ => False) [] := fun B hB => by
  rw [gl_tab] at hB; cases hB
  exact ⟨h, by rintro ⟨i, g, hi⟩; simp at hi, fun h => h⟩
theorem frz_nil {b : Nat} : Frz (fun _ => False) [] false b := ⟨fun _ h => h, by rintro ⟨i, g, hi⟩; simp at hi⟩
theorem und24 : Tryd.prog.underlying 24 = some (.struct #[{ name := "B", type := 22, offset := 0, embedded := false, tag := "", pkgPath := "", byteOffset := 0 }]) := by kernel_rfl
theorem und22 : Tryd.prog.underlying 22 = some (.slice 5) := by kernel_rfl
theorem und5 : Tryd.prog.underlying 5 = some (.int .u8) := by kernel_rfl
theorem vrs_bytes {H : Heap} : ∀ zs : List Int, VRs H (fun _ => False) [] ((zs.map U8.mk).flatMap cls) (zs.map fun z => .int .u8 z)
  | [] => .nil
  | z :: zs => .cons (.flat rfl) (vrs_bytes zs)
theorem add_none {b o i : Nat} : (⟨b, o, none⟩ : Addr).add i = ⟨b, o + i, none⟩ := by
  unfold Addr.add
  split
  · rename_i h; subst h; rfl
  · rfl
set_option maxRecDepth 100000 in
theorem raw_open {Hh : Type} {enc : TypeId × Value → Hh} {W : World} (hT : TabW W) {base : Nat} {v0 : Value} {d0 : DataW Hh} {p0 : List MemPlace} (hok : Value.okWide Tryd.prog W .any base 24 v0) (h : DataW.Trod enc Tryd.prog W 0 (fun _ => true) true 24 v0 d0 p0) (hwt : ∀ n ∈ d0.weights Tryd.prog 24, n ≤ reachBytes) : ∃ L H ρ a0, (∀ u ∈ L, 0 ≤ U8.v u ∧ U8.v u < 256) ∧ RawW W v0 L H ρ a0 := by
  obtain ⟨cs, rfl, hsz⟩ := okWide_struct und24 hok
  have c24 : Tryd.prog.cellsOf 24 = 1 := by kernel_rfl
  have c22 : Tryd.prog.cellsOf 22 = 1 := by kernel_rfl
  have c5 : Tryd.prog.cellsOf 5 = 1 := by kernel_rfl
  rw [c24] at hsz
  obtain ⟨x, rfl⟩ : ∃ x, cs = #[x] := by
    obtain ⟨l⟩ := cs
    obtain ⟨x, rfl⟩ := List.length_eq_one_iff.1 (by simpa using hsz)
    exact ⟨x, rfl⟩
  obtain ⟨fuel, hf⟩ := h
  obtain ⟨y0, n, hdx, _, h0⟩ := trod_struct1 und24 hf
  have e0 : (List.drop 0 (Value.agg #[x]).cells.toList).take (Tryd.prog.cellsOf 22) = [x] := by rw [c22]; rfl
  simp only [e0] at h0
  have hrow : Cell.okWide Tryd.prog W .any base 22 x := by
    unfold Value.okWide at hok
    rw [und24] at hok
    obtain ⟨cs2, he, _, ts, hts, _, hall⟩ := hok
    cases he
    have ht : Tryd.prog.cellTypes Tryd.prog.depth 24 = some [22] := by kernel_rfl
    rw [ht] at hts; cases hts
    obtain ⟨u, hu, hc⟩ := hall 0 x rfl
    simp at hu; subst hu
    exact hc
  have g0 : (#[some tabBlk] : Heap)[0]? = some (some tabBlk) := rfl
  have ro0 : ∀ (b : Nat) (B : Blk), (#[some tabBlk] : Heap)[b]? = some (some B) → B.ro = true := fun b B hB => by
    rcases b with _ | b
    · simp at hB; subst hB; rfl
    · simp at hB
  rcases open_ints und22 und5 c5 h0 with ⟨hx, _⟩ | ⟨a, len, cap, zs, hx, _, hl, hm, hz, hy, hcell, hwf⟩
  · simp at hx; subst hx
    refine ⟨[], #[some tabBlk], ren0, .agg #[.slice none 0 0], by simp, rel0 hT, ro0, gl_ok g0, .agg (.cons .fnil .nil), .one (.agg (.cons (.base (.flat rfl)) .nil))⟩
  · simp at hx; subst hx
    have hspot : a.spot = none := by
      unfold Cell.okWide at hrow
      rw [und22] at hrow
      unfold Cell.ok at hrow
      rw [und22] at hrow
      exact hrow.2.2.2.1
    obtain ⟨blk, off, spot⟩ := a
    simp only at hspot; subst hspot
    simp only [if_true] at hz
    rcases Nat.eq_zero_or_pos cap with hc0 | hc0
    · subst hc0
      obtain rfl : len = 0 := by omega
      refine ⟨[], #[some tabBlk], ren0, .agg #[.slice (some ⟨0, 0, some 2⟩) 0 0], by simp, rel0 hT, ro0, gl_ok g0, ?_, .one (.agg (.cons (.base (.sliceEnd (l := ⟨0, 0, 64, 64⟩) rfl)) .nil))⟩
      exact .agg (.cons (.fz (a := ⟨0, 0, some 2⟩) (vs := []) rfl .nil (Nat.le_refl _) (.inl rfl) (by decide) (by decide) frz_nil) .nil)
    · have hml : len < 2 ^ 62 := by
        simp only [Prod.mk.injEq] at hdx
        have e1 : y0.1 = _ := congrArg Prod.fst hy
        rw [hdx.1, e1] at hwt
        have h1 : Tryd.prog.bytesOf 5 = 1 := by kernel_rfl
        have h2 := hwt ((((lits .u8 (zs.take len) : List (DataW Hh))).length + (lits .u8 (zs.drop len) : List (DataW Hh)).length) * Tryd.prog.bytesOf 5) (by
          simp [DataW.weights, und24, und22, DataW.weightsEach])
        rw [h1] at h2
        have h3 : (lits .u8 (zs.take len) : List (DataW Hh)).length = len := by simp [lits]; omega
        have h4 : reachBytes < 2 ^ 62 := by decide
        omega
      have hlt : (zs.take len).length = len := by rw [List.length_take]; omega
      refine ⟨(zs.take len).map U8.mk, #[some tabBlk, some ⟨(zs.take len).map fun z => .int .u8 z, 5, true⟩], ren1 ⟨blk, off, 1, off + cap⟩, .agg #[.slice (some ⟨1, 0, some 2⟩) len len], ?_, rel1 hT (by omega) hc0 (fun i hi => ?_), ?_, gl_ok rfl, ?_, ?_⟩
      · intro u hu
        obtain ⟨z, hz1, rfl⟩ := List.mem_map.1 hu
        have hw := hwf z (List.mem_of_mem_take hz1)
        simp [Lit.wf, IntKind.min, IntKind.max, IntKind.signed, IntKind.bits] at hw
        exact ⟨by show 0 ≤ z; omega, by show z < 256; omega⟩
      · refine ⟨_, (by rw [← add_none]; exact hcell i (by omega)), fun hi2 => ?_⟩
        congr 1
        rw [List.getD_eq_getElem?_getD, List.getD_eq_getElem?_getD, List.getElem?_take, if_pos (by omega)]
      · intro b B hB
        rcases b with _ | _ | b
        · simp at hB; subst hB; rfl
        · simp at hB; subst hB; rfl
        · simp at hB
      · refine .agg (.cons ?_ .nil)
        have e1 : lst false ((zs.take len).map U8.mk) = .fz false 1 len (((zs.take len).map U8.mk).flatMap cls) := by
          show TV.fz false (Enc.sz U8) ((zs.take len).map U8.mk).length _ = _
          rw [List.length_map, hlt]; rfl
        rw [e1]
        refine .fz (a := ⟨1, 0, some 2⟩) (vs := (zs.take len).map fun z => .int .u8 z) ?_ (vrs_bytes _) (Nat.le_refl _) (.inl rfl) (by omega) (by decide) frz_nil
        simp only [cellsA]
        show (if 0 + len * 1 ≤ ((zs.take len).map fun z => Value.int .u8 z).length then _ else _) = _
        rw [List.length_map, hlt, if_pos (by omega), List.drop_zero, List.take_of_length_le (by rw [List.length_map, hlt]; omega)]
      · refine .one (.agg (.cons (.base (.slice (l := ⟨blk, off, 1, off + cap⟩) rfl rfl (Nat.le_refl _) hl ?_)) .nil))
        show off + 0 + cap * 1 = off + cap
        omega
end Go.Ab
namespace Go.Proofs.YtaaeeiheeihjaaaDoor
open Go Go.ChangeShapes Go.WideShapes Go.ChangeAt Go.RowKit
abbrev laidL {H : Type} : List (String × DataW H) := [("math/bits.deBruijn64tab", Rows.laid_math_bits_deBruijn64tab)]
theorem own : ownKnob Tryd.prog.godebug = none := by kernel_rfl
theorem door_met (os : Os) (args : Array Value) : laidMetH Tryd.prog laidL ((World.doorLaid Tryd.prog 400 os).forCall (fun _ _ => 0) ⟨#[], args, []⟩).memory :=
  laidMetH_of_parts3 (fuel := 8) (laidMet_of_run' 8 (by kernel_rfl) (by kernel_rfl)) (by kernel_rfl) (by kernel_rfl)
theorem of_laid {W : World} (h : laidMetH Tryd.prog laidL W) : Ab.TabW W := by
  rw [MakeChecks.laidMetH_plain _ _ _ (by kernel_rfl)] at h
  have ht := Lib.tabIs_of_head (name := "math/bits.deBruijn64tab") (k := .u8) (zs := Ab.tabZs) (rest := []) (g := 0) (t := 147) (e := 5) (n := 64) (by kernel_rfl) (by kernel_rfl) (by kernel_rfl) (by kernel_rfl) (by kernel_rfl) (by kernel_rfl) h
  exact ⟨fun i hi => ht.cell (by kernel_rfl) i hi⟩
section
variable {H : Type} {enc : TypeId × Value → H} {P : Program}
theorem post_of_below {f : Func} {s : ChangeSpec} {apart fresh handsOn again : Bool} {W W' : World} {args : Array Value} {v : Value} {ds gs : List (DataW H)} {before pa pv : List MemPlace}
    (hW : DataW.Whole enc P f.params.toList s.vars apart W args.toList ds gs before)
    (hres : ∀ (b : Nat) (sp : Nat → Bool) (hd : Bool), DataW.TrodAll enc P W' b sp hd f.resultTypes.toList (v.resultList f.resultTypes.size) (s.fn H (ds ++ gs)).results [])
    (hargs : ∀ sp : Nat → Bool, (∀ p ∈ before, sp p.block = true) → DataW.TrodAll enc P W' 0 sp true f.params.toList args.toList (s.fn H (ds ++ gs)).args pa)
    (hvars : ∀ sp : Nat → Bool, (∀ p ∈ before, sp p.block = true) → DataW.TrodVars enc P W' sp s.vars (s.fn H (ds ++ gs)).vars pv)
    (hps : before = pa ++ pv) (hb : Below W.heap.size W W')
    (hok : ∀ (j : Nat) (t : TypeId) (r : Value), f.resultTypes[j]? = some t → (v.resultList f.resultTypes.size)[j]? = some r → Value.okWide P W' .any 0 t r) :
    s.post enc P f apart fresh handsOn again W args v W' := by
  have hlt : ∀ p ∈ before, p.block < W.heap.size := fun p hp => hW.lt p hp
  have hold : ∀ p ∈ before, (fun b => decide (b < W.heap.size)) p.block = true := fun p hp => by simpa using hlt p hp
  refine ⟨ds, gs, before, [], pa, pv, hW, hres _ _ _, hargs _ hold, hvars _ hold, World.keptBut_mono (fun p hp => ⟨hp, ?_⟩) (hb.frame (· ∈ before)), fun _ => ?_⟩
  · rw [hps, List.mem_append] at hp
    exact Or.inr hp
  · obtain ⟨_, _, _, _, _, hz, hn⟩ := hW
    refine ⟨hok, _, _, ([] ++ pa) ++ pv, ⟨[] ++ pa, pv, trodAll_append (hargs _ (fun _ _ => rfl)) (hres _ _ _), hvars _ (fun _ _ => rfl), rfl, ?_, ?_⟩, ?_⟩
    · intro b off hp
      have hin : MemPlace.cell b off ∈ before := by rw [hps]; simpa using hp
      rw [hb.frozen (hlt _ hin)]
      exact hz b off hin
    · intro ha
      have := hn ha
      rw [hps] at this
      simpa using this
    · intro p hp _
      rw [hps]
      simpa using hp
end
theorem und4 : Tryd.prog.underlying 4 = some .bool := by kernel_rfl
theorem laidOut : laidOutB Tryd.prog = true := by kernel_rfl
theorem stays {H : Type} {enc : TypeId × Value → H} {t : TypeId} (hr : Tryd.prog.readableRec t = true) (ht : t < Tryd.prog.types.size) {W W' : World} {sp : Nat → Bool} {v : Value} {d : DataW H} {ps : List MemPlace} (h : DataW.Trod enc Tryd.prog W 0 (fun _ => true) true t v d ps) (hb : Below W.heap.size W W') (hlt : ∀ p ∈ ps, p.block < W.heap.size) (hs : ∀ p ∈ ps, sp p.block = true) : DataW.Trod enc Tryd.prog W' 0 sp true t v d ps :=
  WideElems.Trod_stays laidOut hr ht h (fun x hx => hb.same (hlt x hx)) hs
end Go.Proofs.YtaaeeiheeihjaaaDoor
namespace Go.Ab
def idxFlat {α : Type} (f : Nat → α → List TV) : Nat → List α → List TV
  | _, [] => []
  | k, a :: xs => f k a ++ idxFlat f (k + 1) xs
section
variable {α : Type} {f : Nat → α → List TV} {sz : Nat}
theorem idxFlat_len (hf : ∀ k a, (f k a).length = sz) : ∀ (xs : List α) (k : Nat), (idxFlat f k xs).length = xs.length * sz
  | [], k => by simp [idxFlat]
  | a :: xs, k => by rw [idxFlat, List.length_append, hf, idxFlat_len hf xs, List.length_cons, Nat.succ_mul]; omega
theorem idxFlat_append : ∀ (xs ys : List α) (k : Nat), idxFlat f k (xs ++ ys) = idxFlat f k xs ++ idxFlat f (k + xs.length) ys
  | [], ys, k => by simp [idxFlat]
  | a :: xs, ys, k => by
    rw [List.cons_append, idxFlat, idxFlat, idxFlat_append xs ys, List.append_assoc, List.length_cons]
    congr 3; omega
theorem idxFlat_split (hf : ∀ k a, (f k a).length = sz) {xs : List α} {k j : Nat} {a : α} (hj : xs[j]? = some a) : ∃ us vs, idxFlat f k xs = us ++ f (k + j) a ++ vs ∧ us.length = j * sz ∧ ∀ b, idxFlat f k (xs.set j b) = us ++ f (k + j) b ++ vs := by
  have hl := (List.getElem?_eq_some_iff.1 hj).1
  have he := (List.getElem?_eq_some_iff.1 hj).2
  have hx : xs = xs.take j ++ a :: xs.drop (j + 1) := by
    rw [← he, ← List.drop_eq_getElem_cons hl, List.take_append_drop]
  have htl : (xs.take j).length = j := by rw [List.length_take]; omega
  refine ⟨idxFlat f k (xs.take j), idxFlat f (k + j + 1) (xs.drop (j + 1)), ?_, by rw [idxFlat_len hf, htl], fun b => ?_⟩
  · conv => lhs; rw [hx]
    rw [idxFlat_append, htl, idxFlat, List.append_assoc]
  · rw [List.set_eq_take_append_cons_drop, if_pos hl, idxFlat_append, htl, idxFlat, List.append_assoc]
theorem idxFlat_get (hf : ∀ k a, (f k a).length = sz) {xs : List α} {k j o : Nat} {a : α} {x : TV} (hj : xs[j]? = some a) (ho : (f (k + j) a)[o]? = some x) : (idxFlat f k xs)[j * sz + o]? = some x := by
  obtain ⟨us, vs, h1, h2, _⟩ := idxFlat_split (k := k) hf hj
  have hlt := (List.getElem?_eq_some_iff.1 ho).1
  rw [h1, List.append_assoc, List.getElem?_append_right (by omega), h2, Nat.add_sub_cancel_left, List.getElem?_append_left hlt]
  exact ho
theorem idxFlat_put (hf : ∀ k a, (f k a).length = sz) {xs : List α} {k j o : Nat} {a b : α} {ws : List TV} (hj : xs[j]? = some a) (ho : o + ws.length ≤ sz) (hb : spliceT (f (k + j) a) o ws = f (k + j) b) : spliceT (idxFlat f k xs) (j * sz + o) ws = idxFlat f k (xs.set j b) := by
  obtain ⟨us, vs, h1, h2, h3⟩ := idxFlat_split (k := k) hf hj
  have hl := hf (k + j) a
  rw [h3, h1, ← hb]
  unfold spliceT
  rw [List.append_assoc us, List.take_append, List.take_of_length_le (by omega : us.length ≤ j * sz + o), h2, Nat.add_sub_cancel_left, List.take_append, hl, show o - sz = 0 by omega, List.take_zero, List.append_nil, Nat.add_assoc, List.drop_append, List.drop_eq_nil_of_le (by omega : us.length ≤ j * sz + (o + ws.length)), List.nil_append, h2, Nat.add_sub_cancel_left, List.drop_append, hl, show o + ws.length - sz = 0 by omega, List.drop_zero]
  simp only [List.append_assoc]
end

section
variable {α : Type} [Enc α]
abbrev NRow (α : Type) := Nat × List α
def nRoots (e : TypeId) (rs : List (NRow α)) : List Root := rs.map fun r => rl r.1 e r.2
def nCell (base : Nat) (k : Nat) (r : NRow α) : List TV := [ownl (k + base) r.1 r.2]
abbrev nCells (base : Nat) (rs : List (NRow α)) : List TV := idxFlat (nCell base) 0 rs
theorem nCell_len (base k : Nat) (r : NRow α) : (nCell base k r).length = 1 := rfl
theorem nRoots_len {e : TypeId} {rs : List (NRow α)} : (nRoots e rs).length = rs.length := by simp [nRoots]
theorem nRoots_get {e : TypeId} {rs : List (NRow α)} {k : Nat} {g : Nat} {l : List α} (h : rs[k]? = some (g, l)) : (nRoots e rs)[k]? = some (rl g e l) := by simp [nRoots, h]
theorem nRoots_set {e : TypeId} {rs : List (NRow α)} {k : Nat} {g : Nat} {l : List α} : (nRoots e rs).set k (rl g e l) = nRoots e (rs.set k (g, l)) := by simp [nRoots, List.map_set]
theorem nCells_len {base : Nat} {rs : List (NRow α)} : (nCells base rs).length = rs.length := by rw [idxFlat_len (nCell_len base)]; omega
theorem nCells_get {base : Nat} {rs : List (NRow α)} {k : Nat} {g : Nat} {l : List α} (h : rs[k]? = some (g, l)) : (nCells base rs)[k]? = some (ownl (k + base) g l) := by
  have := idxFlat_get (nCell_len base) (k := 0) (o := 0) h (x := ownl (k + base) g l) (by rw [Nat.zero_add]; rfl)
  rwa [Nat.mul_one, Nat.add_zero] at this
theorem nCells_put {base : Nat} {rs : List (NRow α)} {k g g' : Nat} {l l' : List α} (h : rs[k]? = some (g, l)) : spliceT (nCells base rs) k [ownl (k + base) g' l'] = nCells base (rs.set k (g', l')) := by
  have := idxFlat_put (nCell_len base) (k := 0) (o := 0) (ws := [ownl (k + base) g' l']) (b := (g', l')) h (Nat.le_refl 1) (by rw [Nat.zero_add]; rfl)
  rwa [Nat.mul_one, Nat.add_zero] at this
theorem nCells_snoc {base : Nat} {rs : List (NRow α)} {g : Nat} {l : List α} : nCells base (rs ++ [(g, l)]) = nCells base rs ++ [ownl (rs.length + base) g l] := by
  rw [nCells, idxFlat_append, Nat.zero_add]; rfl
section
variable {X : Cx} {E : TEnv} {Th : List Root}
theorem g_nilcells {i g : Nat} {e : TypeId} {n : Nat} (e' : TypeId) (hi : Th[i]? = some ⟨g, some (e, List.replicate n (TV.v (.slice none 0 0)))⟩) : ∀ T G p, Rl X E Th T G p → ∃ p', Rl X E (Th.set i ⟨g, some (e, nCells Th.length (List.replicate n ((0, []) : NRow α)))⟩ ++ nRoots e' (List.replicate n ((0, []) : NRow α))) T G p' := by
  have key : ∀ m, m ≤ n → ∀ T G p, Rl X E Th T G p → ∃ p', Rl X E (Th.set i ⟨g, some (e, nCells Th.length (List.replicate m ((0, []) : NRow α)) ++ List.replicate (n - m) (TV.v (.slice none 0 0)))⟩ ++ nRoots e' (List.replicate m ((0, []) : NRow α))) T G p' := by
    intro m
    induction m with
    | zero =>
      intro _ T G p hr
      refine ⟨p, ?_⟩
      have e1 : Th.set i ⟨g, some (e, nCells Th.length (List.replicate 0 ((0, []) : NRow α)) ++ List.replicate (n - 0) (TV.v (.slice none 0 0)))⟩ ++ nRoots e' (List.replicate 0 ((0, []) : NRow α)) = Th := by
        show Th.set i ⟨g, some (e, [] ++ List.replicate n (TV.v (.slice none 0 0)))⟩ ++ [] = Th
        rw [List.append_nil, List.nil_append]
        apply List.ext_getElem?
        intro j
        rw [List.getElem?_set]
        split
        · rename_i hij; subst hij
          (try rw [if_pos (List.getElem?_eq_some_iff.1 hi).1]); exact hi.symm
        · rfl
      rw [e1]; exact hr
    | succ m ih =>
      intro hm T G p hr
      obtain ⟨p1, h1⟩ := ih (by omega) T G p hr
      have hil := (List.getElem?_eq_some_iff.1 hi).1
      have hcl : (nCells Th.length (List.replicate m ((0, []) : NRow α))).length = m := by rw [nCells_len]; simp
      obtain ⟨p2, h2⟩ := g_nilcell (o := m) (sz := Enc.sz α) (e' := e') (i := i) (g := g) (e := e) (cs := nCells Th.length (List.replicate m ((0, []) : NRow α)) ++ List.replicate (n - m) (TV.v (.slice none 0 0))) (by rw [List.getElem?_append_left (by simpa using hil)]; simp [hil]) (by
        rw [List.getElem?_append_right (by omega), hcl, Nat.sub_self, show n - m = (n - (m + 1)) + 1 by omega]; rfl) T G p1 h1
      refine ⟨p2, ?_⟩
      have hlen : (Th.set i ⟨g, some (e, nCells Th.length (List.replicate m ((0, []) : NRow α)) ++ List.replicate (n - m) (TV.v (.slice none 0 0)))⟩ ++ nRoots e' (List.replicate m ((0, []) : NRow α))).length = m + Th.length := by
        rw [List.length_append, nRoots_len]; simp; omega
      rw [hlen] at h2
      have e2 : (Th.set i ⟨g, some (e, nCells Th.length (List.replicate m ((0, []) : NRow α)) ++ List.replicate (n - m) (TV.v (.slice none 0 0)))⟩ ++ nRoots e' (List.replicate m ((0, []) : NRow α))).set i ⟨g, some (e, (nCells Th.length (List.replicate m ((0, []) : NRow α)) ++ List.replicate (n - m) (TV.v (.slice none 0 0))).set m (TV.own (m + Th.length) 0 (Enc.sz α) 0 0 0))⟩ ++ [⟨0, some (e', [])⟩] = Th.set i ⟨g, some (e, nCells Th.length (List.replicate (m + 1) ((0, []) : NRow α)) ++ List.replicate (n - (m + 1)) (TV.v (.slice none 0 0)))⟩ ++ nRoots e' (List.replicate (m + 1) ((0, []) : NRow α)) := by
        rw [List.set_append_left _ _ (by simpa using hil), List.set_set, List.append_assoc]
        congr 1
        · congr 4
          rw [List.set_append_right _ _ (by omega), hcl, Nat.sub_self, show n - m = (n - (m + 1)) + 1 by omega, List.replicate_succ, List.set_cons_zero, List.replicate_succ' (n := m), nCells_snoc, List.length_replicate, List.append_assoc]
          rfl
        · rw [List.replicate_succ' (n := m)]
          simp [nRoots]
      rw [e2] at h2
      exact h2
  intro T G p hr
  obtain ⟨p', h⟩ := key n (Nat.le_refl _) T G p hr
  rw [Nat.sub_self, List.replicate_zero, List.append_nil] at h
  exact ⟨p', h⟩
theorem g_fzrows {A : List Root} {j gj base : Nat} {e ej : TypeId} {rs : List (NRow α)} (hb : A.length = base) (hj : A[j]? = some ⟨gj, some (ej, nCells base rs)⟩) (hX : X.p.length ≤ base) (hl : ∀ r ∈ rs, r.2.length < 2 ^ 62) :
    ∀ T G p, Rl X E (A ++ nRoots e rs) T G p → ∃ p', Rl X E (A.set j (rl gj ej (rs.map (·.2))) ++ rs.map fun r => ⟨r.1, none⟩) T G p' := by
  have hjl := (List.getElem?_eq_some_iff.1 hj).1
  have key : ∀ m, m ≤ rs.length → ∀ T G p, Rl X E (A ++ nRoots e rs) T G p → ∃ p', Rl X E (A.set j ⟨gj, some (ej, ((rs.map (·.2)).take m).flatMap cls ++ (nCells base rs).drop m)⟩ ++ ((rs.take m).map (fun r => (⟨r.1, none⟩ : Root)) ++ (nRoots e rs).drop m)) T G p' := by
    intro m
    induction m with
    | zero =>
      intro _ T G p hr
      refine ⟨p, ?_⟩
      have e1 : A.set j ⟨gj, some (ej, ((rs.map (·.2)).take 0).flatMap cls ++ (nCells base rs).drop 0)⟩ = A := by
        show A.set j ⟨gj, some (ej, nCells base rs)⟩ = A
        apply List.ext_getElem?
        intro q
        rw [List.getElem?_set]
        split
        · rename_i hij; subst hij
          (try rw [if_pos hjl]); exact hj.symm
        · rfl
      rw [e1]; exact hr
    | succ m ih =>
      intro hm T G p hr
      obtain ⟨p1, h1⟩ := ih (by omega) T G p hr
      obtain ⟨⟨g, l⟩, hrm⟩ : ∃ r, rs[m]? = some r := ⟨rs[m], by simp⟩
      have hrmL : rs[m] = (g, l) := (List.getElem?_eq_some_iff.1 hrm).2
      have htl : ((rs.take m).map (fun r => (⟨r.1, none⟩ : Root))).length = m := by rw [List.length_map, List.length_take]; omega
      have hfl : (((rs.map (·.2)).take m).flatMap cls).length = m := by
        rw [flat_len, List.length_take, List.length_map, Nat.min_eq_left (by omega)]; exact Nat.mul_one m
      have hg1 : (nRoots e rs)[m]? = some (rl g e l) := nRoots_get hrm
      have hg2 : (nCells base rs)[m]? = some (ownl (m + base) g l) := nCells_get hrm
      have hcl : m < (nCells base rs).length := (List.getElem?_eq_some_iff.1 hg2).1
      have hnl : m < (nRoots e rs).length := (List.getElem?_eq_some_iff.1 hg1).1
      have hdN : (nRoots e rs).drop m = rl g e l :: (nRoots e rs).drop (m + 1) := by
        rw [List.drop_eq_getElem_cons hnl]
        congr 1
        exact (List.getElem?_eq_some_iff.1 hg1).2
      have hdC : (nCells base rs).drop m = ownl (m + base) g l :: (nCells base rs).drop (m + 1) := by
        rw [List.drop_eq_getElem_cons hcl]
        congr 1
        exact (List.getElem?_eq_some_iff.1 hg2).2
      rw [hdN, hdC] at h1
      have hset : (A.set j ⟨gj, some (ej, ((rs.map (·.2)).take m).flatMap cls ++ ownl (m + base) g l :: (nCells base rs).drop (m + 1))⟩).length = base := by simpa using hb
      obtain ⟨p2, h2⟩ := g_freezecell (i := m + base) (g := g) (e := e) (cs := l.flatMap cls) (j := j) (gj := gj) (ej := ej) (o := m) (x := ownl (m + base) g l) (x' := lst false l)
        (cj := ((rs.map (·.2)).take m).flatMap cls ++ ownl (m + base) g l :: (nCells base rs).drop (m + 1))
        (by rw [List.getElem?_append_right (by omega), hset, show m + base - base = m by omega, List.getElem?_append_right (by omega), htl, Nat.sub_self]; rfl)
        (by rw [List.getElem?_append_left (by simpa using hjl)]; simp [hjl]) (by omega)
        (by rw [List.getElem?_append_right (by omega), hfl, Nat.sub_self]; rfl) (by omega)
        (fz_own rfl rfl (by have := hl (g, l) (by rw [← hrmL]; exact List.getElem_mem _); exact this) (Nat.le_refl _)) T G p1 h1
      refine ⟨p2, ?_⟩
      have e2 : ((A.set j ⟨gj, some (ej, ((rs.map (·.2)).take m).flatMap cls ++ ownl (m + base) g l :: (nCells base rs).drop (m + 1))⟩ ++ ((rs.take m).map (fun r => (⟨r.1, none⟩ : Root)) ++ rl g e l :: (nRoots e rs).drop (m + 1))).set (m + base) ⟨g, none⟩).set j ⟨gj, some (ej, (((rs.map (·.2)).take m).flatMap cls ++ ownl (m + base) g l :: (nCells base rs).drop (m + 1)).set m (lst false l))⟩
          = A.set j ⟨gj, some (ej, ((rs.map (·.2)).take (m + 1)).flatMap cls ++ (nCells base rs).drop (m + 1))⟩ ++ ((rs.take (m + 1)).map (fun r => (⟨r.1, none⟩ : Root)) ++ (nRoots e rs).drop (m + 1)) := by
        rw [List.set_append_right _ _ (by omega), hset, show m + base - base = m by omega, List.set_append_left _ _ (by simpa using hjl), List.set_set, List.set_append_right _ _ (by omega), hfl, Nat.sub_self, List.set_cons_zero, List.set_append_right _ _ (by omega), htl, Nat.sub_self, List.set_cons_zero]
        rw [List.take_add_one, List.take_add_one, List.getElem?_map, hrm]
        simp only [Option.map_some, Option.toList_some, List.flatMap_append, List.map_append, List.map_cons, List.map_nil, List.append_assoc, List.cons_append, List.nil_append]
        rfl
      rw [e2] at h2
      exact h2
  intro T G p hr
  obtain ⟨p', h⟩ := key rs.length (Nat.le_refl _) T G p hr
  rw [List.take_of_length_le (by simp), List.drop_eq_nil_of_le (by rw [nCells_len]; exact Nat.le_refl _), List.append_nil, List.take_length, List.drop_eq_nil_of_le (by rw [nRoots_len]; exact Nat.le_refl _), List.append_nil] at h
  exact ⟨p', h⟩
end
def gOf (rs : List (NRow α)) (k : Nat) : Nat := (rs.getD k (0, [])).1
theorem row_get {rs : List (NRow α)} {k : Nat} (h : k < rs.length) : rs[k]? = some (gOf rs k, at' (rs.map Prod.snd) k) := by simp [gOf, at', h]
theorem nget {pre : List Root} {e : TypeId} {rs : List (NRow α)} {k b : Nat} {R : Root} (h : (nRoots e rs)[k]? = some R) (hp : pre.length = b) : (pre ++ nRoots e rs)[k + b]? = some R := by
  rw [List.getElem?_append_right (by omega), show k + b - pre.length = k by omega]; exact h
theorem zeros_nil (n : Nat) : zerosT (.slice none 0 0) n = List.replicate n (TV.v (.slice none 0 0)) := by
  induction n with
  | zero => rfl
  | succ n ih => rw [List.replicate_succ, ← ih]; rfl
theorem snd_set {rs : List (NRow α)} {k g : Nat} {l : List α} : (rs.set k (g, l)).map Prod.snd = (rs.map Prod.snd).set k l := by rw [List.map_set]
section
variable {P : Program} {X : Cx} {E : TEnv} {Th : List Root}
theorem opt_load_nc {t : TypeId} {x : Operand} {i g n base k : Nat} {e : TypeId} {rs : List (NRow α)} {g' : Nat} {l : List α} {m : Nat} [hT : TyI P t false m] (hx : evTV E x = some (.pt i g n)) (hi : Th[i]? = some ⟨g, some (e, nCells base rs)⟩) (o1 : okOpd P x = true) (hn : n = k * 1) (hk : rs[k]? = some (g', l)) : OpT P X E Th (.load t x) (ownl (k + base) g' l) Th .no := by
  subst hn
  exact opt_load_pt_1 (X := X) (hT := hT) hx hi o1 (by rw [Nat.mul_one]; exact nCells_get hk)
theorem opt_store_nc {t : TypeId} {x y : Operand} {i g n base k g' g2 : Nat} {e : TypeId} {rs : List (NRow α)} {l l2 : List α} {ag : Bool} [hT : TyI P t ag 1] (hx : evTV E x = some (.pt i g n)) (hy : evTV E y = some (ownl (k + base) g2 l2)) (hi : Th[i]? = some ⟨g, some (e, nCells base rs)⟩) (o1 : okOpd P x = true) (o2 : okOpd P y = true) (hn : n = k * 1) (hk : rs[k]? = some (g', l)) :
    OpT P X E Th (.store t x y) (.tup []) (Th.set i ⟨g, some (e, nCells base (rs.set k (g2, l2)))⟩) (.at i n (n + 1)) := by
  subst hn
  have hkl := (List.getElem?_eq_some_iff.1 hk).1
  have := opt_store (X := X) (hT := hT) hx hy hi o1 o2 trivial rfl (by rw [Nat.ble_eq, nCells_len]; omega) (by rfl)
  have e1 : spliceT (nCells base rs) (k * 1) (ownl (k + base) g2 l2).cells = nCells base (rs.set k (g2, l2)) := by
    rw [Nat.mul_one]; exact nCells_put hk
  rw [e1] at this
  exact this
end
end
end Go.Ab
namespace Go.Ab
structure MB where
  g : Nat
  i : List Inst
  t : Term
  deriving Inhabited
structure MS where
  pos : Nat
  grp : Int
  sub : Int
  regs : Int
  slots : Int
  params : Int
  arrs : List Arr
  gl : Nat
  loops : List Loop
  gb : Nat
  bs : List MB
def OOk (regs : Int) (o : Opd) : Prop := o.kind = 2 → 0 ≤ o.n ∧ o.n < regs
def IOk (regs : Int) (i : Inst) : Prop := OOk regs i.d ∧ OOk regs i.a ∧ OOk regs i.b ∧ OOk regs i.c
def TOk (regs : Int) (lim : Int) (t : Term) : Prop := OOk regs t.d ∧ OOk regs t.a ∧ OOk regs t.b ∧ 0 ≤ t.to0 ∧ t.to0 < lim ∧ 0 ≤ t.to1 ∧ t.to1 < lim
theorem OOk.mono {r r' : Int} (h : r ≤ r') {o : Opd} (k : OOk r o) : OOk r' o := fun e => by have := k e; omega
theorem IOk.mono {r r' : Int} (h : r ≤ r') {o : Inst} (k : IOk r o) : IOk r' o := ⟨k.1.mono h, k.2.1.mono h, k.2.2.1.mono h, k.2.2.2.mono h⟩
theorem TOk.mono {r r' l l' : Int} (h : r ≤ r') (hl : l ≤ l') {t : Term} (k : TOk r l t) : TOk r' l' t := ⟨k.1.mono h, k.2.1.mono h, k.2.2.1.mono h, k.2.2.2.1, by have := k.2.2.2.2.1; omega, k.2.2.2.2.2.1, by have := k.2.2.2.2.2.2; omega⟩
theorem IOk.uses {r : Int} {i : Inst} (h : IOk r i) : ∀ x ∈ usesI i, 0 ≤ x ∧ x < r := fun x hx => by
  obtain ⟨o, ho, hk, rfl⟩ := mem_regsOf.1 hx
  simp only [List.mem_cons, List.not_mem_nil, or_false] at ho
  rcases ho with rfl | rfl | rfl
  · exact h.2.1 hk
  · exact h.2.2.1 hk
  · exact h.2.2.2 hk
theorem TOk.uses {r l : Int} {t : Term} (h : TOk r l t) : ∀ x ∈ usesT t, 0 ≤ x ∧ x < r := fun x hx => by
  obtain ⟨o, ho, hk, rfl⟩ := mem_regsOf.1 hx
  simp only [List.mem_cons, List.not_mem_nil, or_false] at ho
  rcases ho with rfl | rfl
  · exact h.2.1 hk
  · exact h.2.2.1 hk
theorem OOk.reg {r : Int} {o : Opd} (hr : 0 ≤ r) (h : OOk r o) : opdReg o < r ∨ opdReg o = -1 := by
  unfold opdReg
  split
  · left; exact (h (by assumption)).2
  · right; rfl
theorem TOk.succ {r l : Int} {t : Term} (h : TOk r l t) : ∀ s ∈ succT t, 0 ≤ s ∧ s < l := fun s hs => by
  unfold succT at hs
  obtain ⟨_, _, _, h1, h2, h3, h4⟩ := h
  split at hs
  · simp at hs
  · split at hs
    · simp at hs; rcases hs with rfl | rfl <;> exact ⟨by assumption, by assumption⟩
    · simp at hs; subst hs; exact ⟨h1, h2⟩
def MS.code (s : MS) : Code := ⟨s.grp, s.sub, s.regs, s.slots, s.params, s.arrs, s.loops, s.bs.map fun b => ⟨b.i, b.t⟩⟩
structure MI (s : MS) (A : Nat) (lim : Int) : Prop where
  pos : s.pos ≤ A
  bl : s.bs.length ≤ A
  il : ∀ b ∈ s.bs, b.i.length ≤ A
  ll : s.loops.length ≤ A
  ar : s.arrs.length = 5
  rg : 6 ≤ s.regs
  io : ∀ b ∈ s.bs, ∀ i ∈ b.i, IOk s.regs i
  to : ∀ b ∈ s.bs, TOk s.regs lim b.t
theorem MI.mono {s : MS} {A B : Nat} {l l' : Int} (h : MI s A l) (hA : A ≤ B) (hl : l ≤ l') : MI s B l' :=
  ⟨by have := h.pos; omega, by have := h.bl; omega, fun b hb => by have := h.il b hb; omega, by have := h.ll; omega, h.ar, h.rg, h.io, fun b hb => (h.to b hb).mono (Int.le_refl _) hl⟩
theorem MI.fit {s : MS} {A : Nat} (h : MI s A s.bs.length) (h0 : 0 < s.bs.length) (hA : A ≤ 2 ^ 16) (hr : s.regs ≤ 256) : Fit s.code := by
  have hrg := h.rg
  have hmem : ∀ b ∈ s.code.b, ∃ m ∈ s.bs, b = ⟨m.i, m.t⟩ := fun b hb => by
    obtain ⟨m, hm, rfl⟩ := List.mem_map.1 hb
    exact ⟨m, hm, rfl⟩
  have hlen : s.code.b.length = s.bs.length := by simp [MS.code]
  refine ⟨by rw [hlen]; have := h.bl; omega, fun b hb => ?_, fun b hb => ?_, ⟨by show 0 ≤ s.regs; omega, hr⟩, fun b hb i hi => ?_, fun b hb => ?_⟩
  · obtain ⟨m, hm, rfl⟩ := hmem b hb
    have := h.il m hm; show m.i.length ≤ _; omega
  · obtain ⟨m, hm, rfl⟩ := hmem b hb
    rw [hlen]
    exact (h.to m hm).succ
  · obtain ⟨m, hm, rfl⟩ := hmem b hb
    have hi := h.io m hm i hi
    refine ⟨?_, hi.uses, fun hk => (hi.1 hk).1⟩
    show opdReg i.d < s.regs
    rcases hi.1.reg (by omega) with h1 | h1 <;> omega
  · obtain ⟨m, hm, rfl⟩ := hmem b hb
    have ht := h.to m hm
    refine ⟨?_, ht.uses, fun hk => (ht.1 hk).1, fun _ => by rw [hlen]; exact ⟨ht.2.2.2.1, ht.2.2.2.2.1⟩⟩
    show opdReg m.t.d < s.regs
    rcases ht.1.reg (by omega) with h1 | h1 <;> omega
structure Keep (s s' : MS) : Prop where
  ts : s'.bs.length = s.bs.length
  rg : s'.regs = s.regs
  ll : s'.loops.length = s.loops.length
theorem Keep.refl (s : MS) : Keep s s := ⟨rfl, rfl, rfl⟩
theorem Keep.trans {a b c : MS} (h : Keep a b) (k : Keep b c) : Keep a c := ⟨k.ts.trans h.ts, k.rg.trans h.rg, k.ll.trans h.ll⟩

def MS.adv (s : MS) : MS := { s with pos := s.pos + 1 }
def MB.put (b : MB) (i : Inst) : MB := ⟨b.g + 1, b.i ++ [i], b.t⟩
def MS.put (s : MS) (i : Inst) : MS := { s with bs := s.bs.set (s.bs.length - 1) ((s.bs.getD (s.bs.length - 1) default).put i) }
def MS.setT (s : MS) (k : Nat) (t : Term) : MS := { s with bs := s.bs.set k { s.bs.getD k default with t := t } }
def MS.addB (s : MS) : MS := { s with gb := s.gb + 1, bs := s.bs ++ [⟨0, [], default⟩] }
theorem MI.adv {s : MS} {A : Nat} {l : Int} (h : MI s A l) : MI s.adv (A + 1) l ∧ Keep s s.adv :=
  ⟨⟨by show s.pos + 1 ≤ _; have := h.pos; omega, by have := h.bl; show s.bs.length ≤ _; omega, fun b hb => by have := h.il b hb; omega, by have := h.ll; show s.loops.length ≤ _; omega, h.ar, h.rg, h.io, h.to⟩, ⟨rfl, rfl, rfl⟩⟩
theorem getD_mem {α : Type} {xs : List α} {k : Nat} {d : α} (h : k < xs.length) : xs.getD k d ∈ xs := by
  rw [List.getD_eq_getElem?_getD, List.getElem?_eq_getElem h]; exact List.getElem_mem h
theorem set_mem {α : Type} {xs : List α} {k : Nat} {a b : α} (h : b ∈ xs.set k a) : b ∈ xs ∨ b = a := by
  rcases List.mem_or_eq_of_mem_set h with h | h
  · exact .inl h
  · exact .inr h
theorem MI.put {s : MS} {A : Nat} {l : Int} (h : MI s A l) (h0 : 0 < s.bs.length) {i : Inst} (hi : IOk s.regs i) : MI (s.put i) (A + 1) l ∧ Keep s (s.put i) := by
  have hm := getD_mem (d := (default : MB)) (show s.bs.length - 1 < s.bs.length by omega)
  have hb : ∀ b ∈ (s.put i).bs, b ∈ s.bs ∨ b = (s.bs.getD (s.bs.length - 1) default).put i := fun b hb => set_mem hb
  refine ⟨⟨by have := h.pos; show s.pos ≤ _; omega, by have := h.bl; show (s.bs.set _ _).length ≤ _; rw [List.length_set]; omega, fun b hb' => ?_, by have := h.ll; show s.loops.length ≤ _; omega, h.ar, h.rg, fun b hb' j hj => ?_, fun b hb' => ?_⟩, ⟨by show (s.bs.set _ _).length = _; rw [List.length_set], rfl, rfl⟩⟩
  · rcases hb b hb' with hq | rfl
    · have := h.il b hq; omega
    · have := h.il _ hm
      show (_ ++ [i]).length ≤ _
      rw [List.length_append, List.length_singleton]; omega
  · rcases hb b hb' with hq | rfl
    · exact h.io b hq j hj
    · rcases List.mem_append.1 hj with hj | hj
      · exact h.io _ hm j hj
      · rw [List.mem_singleton] at hj; subst hj; exact hi
  · rcases hb b hb' with hq | rfl
    · exact h.to b hq
    · show TOk s.regs l (s.bs.getD (s.bs.length - 1) default).t
      exact h.to _ hm
theorem MI.setT {s : MS} {A : Nat} {l : Int} (h : MI s A l) {k : Nat} (hk : k < s.bs.length) {t : Term} (ht : TOk s.regs l t) : MI (s.setT k t) A l ∧ Keep s (s.setT k t) := by
  have hm := getD_mem (d := (default : MB)) hk
  have hb : ∀ b ∈ (s.setT k t).bs, b ∈ s.bs ∨ b = { s.bs.getD k default with t := t } := fun b hb => set_mem hb
  refine ⟨⟨h.pos, by have := h.bl; show (s.bs.set _ _).length ≤ _; rw [List.length_set]; omega, fun b hb' => ?_, h.ll, h.ar, h.rg, fun b hb' j hj => ?_, fun b hb' => ?_⟩, ⟨by show (s.bs.set _ _).length = _; rw [List.length_set], rfl, rfl⟩⟩
  · rcases hb b hb' with hq | rfl
    · exact h.il b hq
    · show (s.bs.getD k default).i.length ≤ A
      exact h.il _ hm
  · rcases hb b hb' with hq | rfl
    · exact h.io b hq j hj
    · exact h.io _ hm j hj
  · rcases hb b hb' with hq | rfl
    · exact h.to b hq
    · exact ht
theorem zero_ok {regs lim : Int} (h : 0 < lim) : TOk regs lim default := by
  refine ⟨fun e => ?_, fun e => ?_, fun e => ?_, Int.le_refl _, h, Int.le_refl _, h⟩ <;> exact absurd e (by decide)
theorem MI.addB {s : MS} {A : Nat} {l : Int} (h : MI s A l) (hl : 0 < l) : MI s.addB (A + 1) l ∧ s.addB.bs.length = s.bs.length + 1 ∧ s.addB.regs = s.regs ∧ s.addB.loops.length = s.loops.length := by
  have hb : ∀ b ∈ s.addB.bs, b ∈ s.bs ∨ b = ⟨0, [], default⟩ := fun b hb => by
    rcases List.mem_append.1 hb with h | h
    · exact .inl h
    · exact .inr (List.mem_singleton.1 h)
  refine ⟨⟨by have := h.pos; show s.pos ≤ _; omega, by have := h.bl; show (s.bs ++ _).length ≤ _; rw [List.length_append, List.length_singleton]; omega, fun b hb' => ?_, by have := h.ll; show s.loops.length ≤ _; omega, h.ar, h.rg, fun b hb' j hj => ?_, fun b hb' => ?_⟩, by show (s.bs ++ _).length = _; rw [List.length_append, List.length_singleton], rfl, rfl⟩
  · rcases hb b hb' with hq | rfl
    · have := h.il b hq; omega
    · exact Nat.zero_le _
  · rcases hb b hb' with hq | rfl
    · exact h.io b hq j hj
    · simp at hj
  · rcases hb b hb' with hq | rfl
    · exact h.to b hq
    · exact zero_ok hl

structure Stp (s s' : MS) (k : Nat) : Prop where
  mi : ∀ A l, MI s A l → MI s' (A + k) l
  kp : Keep s s'
theorem Stp.refl (s : MS) (k : Nat) : Stp s s k := ⟨fun A l h => h.mono (by omega) (Int.le_refl _), Keep.refl s⟩
theorem Stp.le {a b : MS} {k l : Nat} (h : Stp a b k) (hk : k ≤ l) : Stp a b l := ⟨fun A m hm => (h.mi A m hm).mono (by omega) (Int.le_refl _), h.kp⟩
theorem Stp.trans {a b c : MS} {k l : Nat} (h : Stp a b k) (g : Stp b c l) : Stp a c (k + l) := ⟨fun A m hm => by have := g.mi _ _ (h.mi A m hm); rwa [Nat.add_assoc] at this, h.kp.trans g.kp⟩
theorem Stp.adv' {a b : MS} {k : Nat} (h : Stp a b k) : Stp a b.adv (k + 1) := ⟨fun A m hm => ((h.mi A m hm).adv).1, h.kp.trans ⟨rfl, rfl, rfl⟩⟩
theorem Stp.put' {a b : MS} {k : Nat} {i : Inst} (h : Stp a b k) (h0 : 0 < a.bs.length) (hi : IOk a.regs i) : Stp a (b.put i) (k + 1) :=
  have e : 0 < b.bs.length := by rw [h.kp.ts]; exact h0
  ⟨fun A m hm => ((h.mi A m hm).put e (by rw [h.kp.rg]; exact hi)).1, h.kp.trans ⟨by show (b.bs.set _ _).length = _; rw [List.length_set], rfl, rfl⟩⟩
theorem IOk.mk' {r : Int} {i : Inst} (h1 : OOk r i.d) (h2 : OOk r i.a) (h3 : OOk r i.b) (h4 : OOk r i.c) : IOk r i := ⟨h1, h2, h3, h4⟩
theorem okR {r v : Int} (h : 0 ≤ v ∧ v < 6) (h6 : 6 ≤ r) : OOk r ⟨2, v, 0⟩ := fun _ => ⟨h.1, by show v < r; omega⟩
theorem okK {r v : Int} : OOk r ⟨1, 0, v⟩ := fun e => absurd e (by show ¬ (1 : Int) = 2; decide)
theorem okZ {r : Int} : OOk r ⟨0, 0, 0⟩ := fun e => absurd e (by show ¬ (0 : Int) = 2; decide)
theorem adv_pos {s : MS} : s.adv.pos = s.pos + 1 := rfl
theorem put_pos {s : MS} {i : Inst} : (s.put i).pos = s.pos := rfl
theorem put_len {s : MS} {i : Inst} : (s.put i).bs.length = s.bs.length := by show (s.bs.set _ _).length = _; rw [List.length_set]
theorem put_il {s : MS} {i : Inst} {A : Nat} (h0 : 0 < s.bs.length) (h : ∀ b ∈ s.bs, b.i.length ≤ A) : ∀ b ∈ (s.put i).bs, b.i.length ≤ A + 1 := fun b hb => by
  rcases set_mem hb with hb | rfl
  · have := h b hb; omega
  · have := h _ (getD_mem (d := (default : MB)) (show s.bs.length - 1 < s.bs.length by omega))
    show (_ ++ [i]).length ≤ _
    rw [List.length_append, List.length_singleton]; omega

def MS.withR (s : MS) (r : Int) : MS := { s with regs := r }
def MS.addL (s : MS) (l : Loop) : MS := { s with gl := s.gl + 1, loops := s.loops ++ [l] }
structure St (s : MS) (A : Nat) (lim : Int) (nb nl : Nat) (rg : Int) : Prop where
  mi : MI s A lim
  nb : s.bs.length = nb
  nl : s.loops.length = nl
  rg : s.regs = rg
section
variable {s s' : MS} {A : Nat} {lim : Int} {nb nl : Nat} {rg : Int}
theorem St.lims (h : St s A lim nb nl rg) {l : Int} (hl : lim ≤ l) : St s A l nb nl rg := ⟨h.mi.mono (Nat.le_refl _) hl, h.nb, h.nl, h.rg⟩
theorem St.le (h : St s A lim nb nl rg) {B : Nat} (hB : A ≤ B) : St s B lim nb nl rg := ⟨h.mi.mono hB (Int.le_refl _), h.nb, h.nl, h.rg⟩
theorem St.stp {k : Nat} (h : St s A lim nb nl rg) (g : Stp s s' k) : St s' (A + k) lim nb nl rg := ⟨g.mi _ _ h.mi, g.kp.ts.trans h.nb, g.kp.ll.trans h.nl, g.kp.rg.trans h.rg⟩
theorem St.adv (h : St s A lim nb nl rg) : St s.adv (A + 1) lim nb nl rg := h.stp (Stp.adv' (Stp.refl s 0))
theorem St.put (h : St s A lim nb nl rg) (h0 : 0 < nb) {i : Inst} (hi : IOk rg i) : St (s.put i) (A + 1) lim nb nl rg := h.stp (Stp.put' (Stp.refl s 0) (by rw [h.nb]; exact h0) (by rw [h.rg]; exact hi))
theorem St.setT (h : St s A lim nb nl rg) {k : Nat} {t : Term} (hk : k < nb) (ht : TOk rg lim t) : St (s.setT k t) A lim nb nl rg := by
  obtain ⟨h1, h2⟩ := h.mi.setT (k := k) (t := t) (by rw [h.nb]; exact hk) (by rw [h.rg]; exact ht)
  exact ⟨h1, h2.ts.trans h.nb, h2.ll.trans h.nl, h2.rg.trans h.rg⟩
theorem St.addB (h : St s A lim nb nl rg) (hl : 0 < lim) : St s.addB (A + 1) lim (nb + 1) nl rg := by
  obtain ⟨h1, h2, h3, h4⟩ := h.mi.addB hl
  exact ⟨h1, by rw [h2, h.nb], by rw [h4, h.nl], by rw [h3, h.rg]⟩
theorem St.withR (h : St s A lim nb nl rg) {r : Int} (hr : rg ≤ r) : St (s.withR r) A lim nb nl r := by
  have h1 := h.mi
  have e := h.rg
  refine ⟨⟨h1.pos, h1.bl, h1.il, h1.ll, h1.ar, ?_, fun b hb i hi => (h1.io b hb i hi).mono ?_, fun b hb => (h1.to b hb).mono ?_ (Int.le_refl _)⟩, h.nb, h.nl, rfl⟩
  · have := h1.rg; show 6 ≤ r; omega
  · show s.regs ≤ r; omega
  · show s.regs ≤ r; omega
theorem St.addL (h : St s A lim nb nl rg) {l : Loop} : St (s.addL l) (A + 1) lim nb (nl + 1) rg := by
  have h1 := h.mi
  refine ⟨⟨by have := h1.pos; show s.pos ≤ _; omega, by have := h1.bl; show s.bs.length ≤ _; omega, fun b hb => by have := h1.il b hb; omega, ?_, h1.ar, h1.rg, h1.io, h1.to⟩, h.nb, ?_, h.rg⟩
  · have := h1.ll; show (s.loops ++ [l]).length ≤ _; rw [List.length_append, List.length_singleton]; omega
  · show (s.loops ++ [l]).length = _; rw [List.length_append, List.length_singleton, h.nl]
theorem okN {r v : Int} (h0 : 0 ≤ v) (h : v < r) : OOk r ⟨2, v, 0⟩ := fun _ => ⟨h0, h⟩
theorem TOk.mk' {r l : Int} {t : Term} (h1 : OOk r t.d) (h2 : OOk r t.a) (h3 : OOk r t.b) (h4 : 0 ≤ t.to0 ∧ t.to0 < l) (h5 : 0 ≤ t.to1 ∧ t.to1 < l) : TOk r l t := ⟨h1, h2, h3, h4.1, h4.2, h5.1, h5.2⟩
end
end Go.Ab
namespace Go.Ab
theorem eff_new {X : Cx} {N : Nat} (hX : X.p.length = N) {j i o : Nat} (hio : i < X.p.length) (hj : Nat.ble N j = true) (h : (EffD.all j).fn i o = true) : False := by
  rw [Nat.ble_eq] at hj
  simp only [EffD.fn, effAll, beq_iff_eq] at h
  omega
theorem eff_newAt {X : Cx} {N : Nat} (hX : X.p.length = N) {j i o lo hi : Nat} (hio : i < X.p.length) (hj : Nat.ble N j = true) (h : (EffD.at j lo hi).fn i o = true) : False := by
  rw [Nat.ble_eq] at hj
  simp only [EffD.fn, effAt, Bool.and_eq_true, beq_iff_eq] at h
  omega
section
variable {P : Program} {X : Cx} {E : TEnv} {Th : List Root}
theorem fini_cell {fn : Func} {k : Tmp} {t : TypeId} {i g n : Nat} {e' : TypeId} {cs : List TV} {R : TV → List Root → Prop} {e : AExit} [hT : TyI P t true n] (he : ∀ id, e ≠ .exit id) (hr : fn.results = #[.cell k t]) (hv : lkT E k = some (.pt i g 0)) (hi : Th[i]? = some ⟨g, some (e', cs)⟩) (hl : cs.length = n) (h0 : Nat.blt 0 n = true) (h : R (.agg cs) Th) : FinI P X fn R e E Th :=
  ⟨he, fun T G p hs => by
    rw [Nat.blt_eq] at h0
    obtain ⟨w, h1, h2⟩ := hs.en k _ hv
    obtain ⟨a, v, rfl, h3, h4⟩ := load_pt (P := P) (t := t) hs h2 hi (by omega) (by omega)
    rw [List.drop_zero, ← hl, List.take_length] at h4
    exact ⟨v, _, by simp [resultsA, hr, Array.getD_eq_getD_getElem?, h1, h3], h4, h⟩⟩
theorem conv_u64 {s d : TypeId} {n : Nat} (h : pureV P (convert s d (.int .i64 (n : Int))) = some (.int .u64 (IntKind.u64.wrap (n : Int)))) (hn : n < 2 ^ 63) : pureV P (convert s d (.int .i64 (n : Int))) = some (.int .u64 (n : Int)) := by
  rw [h, wrapU n (by omega)]
def shr16 (m : Int) (n : Nat) : Int := m.fdiv (2 ^ (min n 16))
theorem shr16_run {k : IntKind} {t : TypeId} {ox oy : Operand} {m : Int} {n : Nat} : binA P .shr t ox oy (.int .u16 m) (.int k (n : Int)) = some (.int .u16 (shr16 m n)) := by
  have hff : (flat (.int .u16 m) && flat (.int k (n : Int))) = true := rfl
  unfold binA
  rw [if_pos hff]
  have e : (do eqGuard .shr t ox oy (.int .u16 m) (.int k (n : Int)); binOp .shr t (.int .u16 m) (.int k (n : Int)) : Sem Value) = Sem.pure (.int .u16 (shr16 m n)) := by
    have h1 : ¬ ((n : Int) < 0) := by omega
    have h2 : min ((n : Int).toNat) IntKind.u16.bits = min n 16 := by
      have hb : IntKind.u16.bits = 16 := rfl
      rw [hb, Int.toNat_natCast]
    simp only [eqGuard, binOp, Op.shift, h1, if_false, h2]
    rfl
  rw [e]; rfl
theorem opt_shr16 {t u : TypeId} {x y : Operand} {m : Int} {k : IntKind} {n : Nat} (hx : evTV E x = some (.v (.int .u16 m))) (hy : evTV E y = some (.v (.int k (n : Int)))) (o1 : okOpd P x = true) (o2 : okOpd P y = true) : OpT P X E Th (.binOp .shr t x y u) (.v (.int .u16 (shr16 m n))) Th .no := opt_binG hx hy rfl rfl o1 o2 shr16_run rfl
end
def CutT {σ : Type} (I : σ → Prop) (F : σ → TEnv) (R : σ → List Root) : TEnv → List Root → Prop := fun E Th => ∃ x, I x ∧ subET (F x) E ∧ Th = R x
section
variable {P : Program} {X : Cx} {mk : MK} {N : Nat} {E : TEnv} {Th : List Root} {Q : TPost} {a b : Go.Code}
theorem wct_cut {σ : Type} (I : σ → Prop) (F : σ → TEnv) (R : σ → List Root) (h1 : WCt P X mk a N E Th (QSt (CutT I F R) Q)) (h2 : ∀ x, I x → WCt P X mk b N (F x) (R x) Q) : WCt P X mk (.seq a b) N E Th Q := wct_seq fun T G p hs hr => by
  refine (h1 T G p hs hr).mono ?_
  rintro e T' G' ⟨k1, E', Th', p', k2, k3⟩
  cases e with
  | normal =>
    obtain ⟨x, hx, hE, rfl⟩ := k3
    exact ⟨k1, E', R x, p', k2, fun T2 G2 p2 q1 q2 => h2 x hx T2 G2 p2 q1 (q2.sub hE)⟩
  | ret => exact ⟨k1, E', Th', p', k2, k3⟩
  | exit id => exact ⟨k1, E', Th', p', k2, k3⟩
theorem wct_cut1 {σ : Type} (I : σ → Prop) (F : σ → TEnv) (R : σ → List Root) (h1 : WCt P X mk a N E Th (QSt (CutT I F R) Q)) (h2 : ∀ x, I x → WCt P X mk b N (F x) (R x) Q) : WCt P X mk (.seq a b) N E Th Q := wct_cut I F R h1 h2
theorem wct_cut3 {σ τ υ : Type} (I : σ → τ → υ → Prop) (F : σ → τ → υ → TEnv) (R : σ → τ → υ → List Root) (h1 : WCt P X mk a N E Th (QSt (CutT (fun q : σ × τ × υ => I q.1 q.2.1 q.2.2) (fun q => F q.1 q.2.1 q.2.2) (fun q => R q.1 q.2.1 q.2.2)) Q)) (h2 : ∀ x y z, I x y z → WCt P X mk b N (F x y z) (R x y z) Q) : WCt P X mk (.seq a b) N E Th Q := wct_cut _ _ _ h1 fun x h => h2 x.1 x.2.1 x.2.2 h
theorem cutmk {σ : Type} {I : σ → Prop} {F : σ → TEnv} {R : σ → List Root} (x : σ) (h2 : I x) (h3 : subET (F x) E) (h4 : Th = R x) : CutT I F R E Th := ⟨x, h2, h3, h4⟩
theorem qst_cut {σ : Type} {I : σ → Prop} {F : σ → TEnv} {R : σ → List Root} {Q' : TPost} (h : CutT I F R E Th) : QSt (CutT I F R) Q' .normal E Th := h
end
end Go.Ab
namespace Go.Ab
open Go.Proofs
def bCell (k : Nat) (b : MB) : List TV := ownl (k + 4) b.g b.i :: cls b.t
def bRow (b : MB) : Root := rl b.g 67 b.i
def mCells (L : List U8) (s : MS) : List TV := [lst false L, ti (s.pos : Int), ti s.grp, ti s.sub, ti s.regs, ti s.slots, ti s.params, lst false s.arrs, ownl 2 s.gl s.loops, .own 3 s.gb 14 0 s.bs.length s.bs.length]
def mR (Z : Root) (L : List U8) (s : MS) : List Root := Z :: ⟨0, some (84, mCells L s)⟩ :: rl s.gl 125 s.loops :: ⟨s.gb, some (64, idxFlat bCell 0 s.bs)⟩ :: s.bs.map bRow
theorem bCell_len (k : Nat) (b : MB) : (bCell k b).length = 14 := by
  show (ownl (k + 4) b.g b.i :: (Enc.tv b.t).cells).length = 14
  rw [List.length_cons, Enc.len]; rfl
theorem mR_len {Z : Root} {L : List U8} {s : MS} : (mR Z L s).length = s.bs.length + 4 := by simp [mR]
theorem mR_row {Z : Root} {L : List U8} {s : MS} {ex : List Root} {k : Nat} {b : MB} (h : s.bs[k]? = some b) : (mR Z L s ++ ex)[k + 4]? = some (rl b.g 67 b.i) := by
  show ((s.bs.map bRow) ++ ex)[k]? = _
  have hk := (List.getElem?_eq_some_iff.1 h).1
  rw [List.getElem?_append_left (by simpa using hk), List.getElem?_map, h]; rfl
theorem getD_get {α : Type} {xs : List α} {k : Nat} {d : α} (h : k < xs.length) : xs[k]? = some (xs.getD k d) := by
  rw [List.getD_eq_getElem?_getD, List.getElem?_eq_getElem h]; rfl
theorem setT_rows {bs : List MB} {k : Nat} {t : Term} : (bs.set k { bs.getD k default with t := t }).map bRow = bs.map bRow := by
  apply List.ext_getElem?
  intro i
  rw [List.getElem?_map, List.getElem?_map, List.getElem?_set]
  split
  · rename_i h; subst h
    split
    · rename_i hk
      rw [getD_get (d := default) hk]; rfl
    · rename_i hk
      rw [List.getElem?_eq_none (by omega)]
  · rfl
theorem mR_setT {Z : Root} {L : List U8} {s : MS} {k : Nat} {t : Term} : mR Z L (s.setT k t) = (mR Z L s).set 3 ⟨s.gb, some (64, idxFlat bCell 0 (s.setT k t).bs)⟩ := by
  show Z :: ⟨0, some (84, mCells L (s.setT k t))⟩ :: rl s.gl 125 s.loops :: ⟨s.gb, some (64, idxFlat bCell 0 (s.setT k t).bs)⟩ :: (s.setT k t).bs.map bRow = Z :: ⟨0, some (84, mCells L s)⟩ :: rl s.gl 125 s.loops :: ⟨s.gb, some (64, idxFlat bCell 0 (s.setT k t).bs)⟩ :: s.bs.map bRow
  have e1 : (s.setT k t).bs.map bRow = s.bs.map bRow := setT_rows
  have e2 : mCells L (s.setT k t) = mCells L s := by
    have : (s.setT k t).bs.length = s.bs.length := by simp [MS.setT]
    show [_, _, _, _, _, _, _, _, _, TV.own 3 s.gb 14 0 (s.setT k t).bs.length (s.setT k t).bs.length] = _
    rw [this]; rfl
  rw [e1, e2]
theorem splice_T {k : Nat} {b : MB} {t : Term} : spliceT (bCell k b) 1 (cls t) = bCell k { b with t := t } := by
  show (ownl (k + 4) b.g b.i :: cls b.t).take 1 ++ cls t ++ (ownl (k + 4) b.g b.i :: cls b.t).drop (1 + (cls t).length) = _
  have h1 : (cls t).length = 13 := Enc.len t
  have h2 : (cls b.t).length = 13 := Enc.len b.t
  rw [h1, List.drop_eq_nil_of_le (by rw [List.length_cons, h2]; exact Nat.le_refl _), List.append_nil]
  rfl
theorem splice_I {k g : Nat} {b : MB} {i : List Inst} : spliceT (bCell k b) 0 [ownl (k + 4) g i] = bCell k ⟨g, i, b.t⟩ := rfl
section
variable {X : Cx} {E : TEnv} {Z : Root} {L : List U8} {s : MS} {ex : List Root}
theorem mR_pre {n : Nat} (h : Nat.blt n 4 = true) : ∀ R : Root, ((mR Z L s ++ ex).set n R) = (mR Z L s).set n R ++ ex := fun R => by
  rw [Nat.blt_eq] at h
  exact List.set_append_left _ _ (by rw [mR_len]; omega)
theorem opt_setT {t : Term} {x y : Operand} {n k : Nat} {tt : TypeId} [hT : TyI Tryd.prog tt true 13] (hx : evTV E x = some (.pt 3 s.gb n)) (hy : evTV E y = some (Enc.tv t)) (o1 : okOpd Tryd.prog x = true) (o2 : okOpd Tryd.prog y = true) (hn : n = k * 14 + 1) (hk : k < s.bs.length) :
    OpT Tryd.prog X E (mR Z L s ++ ex) (.store tt x y) (.tup []) (mR Z L (s.setT k t) ++ ex) (.at 3 n (n + 13)) := by
  subst hn
  have hlen : (idxFlat bCell 0 s.bs).length = s.bs.length * 14 := idxFlat_len bCell_len _ _
  have := opt_store (X := X) (P := Tryd.prog) (Th := mR Z L s ++ ex) (hT := hT) (i := 3) (g := s.gb) (e := 64) (cs := idxFlat bCell 0 s.bs) hx hy rfl o1 o2 (by show (Enc.tv t).noTup; exact noTupB_ok (Enc.nt t)) (Enc.len t) (by rw [Nat.ble_eq, hlen]; omega) rfl
  have e1 : spliceT (idxFlat bCell 0 s.bs) (k * 14 + 1) (Enc.tv t).cells = idxFlat bCell 0 (s.setT k t).bs := by
    refine idxFlat_put bCell_len (getD_get (d := default) hk) (by show 1 + (cls t).length ≤ 14; rw [show (cls t).length = 13 from Enc.len t]; exact Nat.le_refl _) ?_
    exact splice_T
  rw [e1, mR_pre rfl, ← mR_setT] at this
  exact this
theorem opt_loadI {x : Operand} {n k m : Nat} {tt : TypeId} [hT : TyI Tryd.prog tt false m] (hx : evTV E x = some (.pt 3 s.gb n)) (o1 : okOpd Tryd.prog x = true) (hn : n = k * 14 + 0) (hk : k < s.bs.length) :
    OpT Tryd.prog X E (mR Z L s ++ ex) (.load tt x) (ownl (k + 4) (s.bs.getD k default).g (s.bs.getD k default).i) (mR Z L s ++ ex) .no := by
  subst hn
  refine opt_load_pt_1 (X := X) (hT := hT) (i := 3) (g := s.gb) (e := 64) (cs := idxFlat bCell 0 s.bs) hx rfl o1 ?_
  refine idxFlat_get bCell_len (getD_get (d := default) hk) ?_
  rw [Nat.zero_add]; rfl
theorem put_rows {bs : List MB} {k : Nat} {b : MB} : (bs.set k b).map bRow = (bs.map bRow).set k (bRow b) := List.map_set
theorem mR_put {i : Inst} (h0 : 0 < s.bs.length) : mR Z L (s.put i) ++ ex = ((mR Z L s ++ ex).set (s.bs.length - 1 + 4) (rl ((s.bs.getD (s.bs.length - 1) default).g + 1) 67 ((s.bs.getD (s.bs.length - 1) default).i ++ [i]))).set 3 ⟨s.gb, some (64, idxFlat bCell 0 (s.put i).bs)⟩ := by
  have e1 : (s.put i).bs.map bRow = (s.bs.map bRow).set (s.bs.length - 1) (rl ((s.bs.getD (s.bs.length - 1) default).g + 1) 67 ((s.bs.getD (s.bs.length - 1) default).i ++ [i])) := put_rows
  have e2 : mCells L (s.put i) = mCells L s := by
    have : (s.put i).bs.length = s.bs.length := by simp [MS.put]
    show [_, _, _, _, _, _, _, _, _, TV.own 3 s.gb 14 0 (s.put i).bs.length (s.put i).bs.length] = _
    rw [this]; rfl
  show Z :: ⟨0, some (84, mCells L (s.put i))⟩ :: rl s.gl 125 s.loops :: ⟨s.gb, some (64, idxFlat bCell 0 (s.put i).bs)⟩ :: ((s.put i).bs.map bRow ++ ex) = Z :: ⟨0, some (84, mCells L s)⟩ :: rl s.gl 125 s.loops :: ⟨s.gb, some (64, idxFlat bCell 0 (s.put i).bs)⟩ :: (s.bs.map bRow ++ ex).set (s.bs.length - 1) _
  rw [e1, e2, List.set_append_left _ _ (by rw [List.length_map]; omega)]
theorem opt_putI {i : Inst} {x y : Operand} {n : Nat} {tt : TypeId} {Th : List Root} [hT : TyI Tryd.prog tt false 1] (hTh : Th = (mR Z L s ++ ex).set (s.bs.length - 1 + 4) (rl ((s.bs.getD (s.bs.length - 1) default).g + 1) 67 ((s.bs.getD (s.bs.length - 1) default).i ++ [i]))) (hx : evTV E x = some (.pt 3 s.gb n)) (hy : evTV E y = some (ownl (s.bs.length - 1 + 4) ((s.bs.getD (s.bs.length - 1) default).g + 1) ((s.bs.getD (s.bs.length - 1) default).i ++ [i]))) (o1 : okOpd Tryd.prog x = true) (o2 : okOpd Tryd.prog y = true) (hn : n = (s.bs.length - 1) * 14 + 0) (h0 : 0 < s.bs.length) :
    OpT Tryd.prog X E Th (.store tt x y) (.tup []) (mR Z L (s.put i) ++ ex) (.at 3 n (n + 1)) := by
  subst hn hTh
  have hlen : (idxFlat bCell 0 s.bs).length = s.bs.length * 14 := idxFlat_len bCell_len _ _
  have := opt_store (X := X) (P := Tryd.prog) (Th := (mR Z L s ++ ex).set (s.bs.length - 1 + 4) (rl ((s.bs.getD (s.bs.length - 1) default).g + 1) 67 ((s.bs.getD (s.bs.length - 1) default).i ++ [i]))) (hT := hT) (i := 3) (g := s.gb) (e := 64) (cs := idxFlat bCell 0 s.bs) hx hy (by rw [List.getElem?_set_ne (by omega)]; rfl) o1 o2 trivial rfl (by rw [Nat.ble_eq, hlen]; omega) rfl
  have e1 : spliceT (idxFlat bCell 0 s.bs) ((s.bs.length - 1) * 14 + 0) (ownl (s.bs.length - 1 + 4) ((s.bs.getD (s.bs.length - 1) default).g + 1) ((s.bs.getD (s.bs.length - 1) default).i ++ [i])).cells = idxFlat bCell 0 (s.put i).bs := by
    refine idxFlat_put bCell_len (getD_get (d := default) (by omega)) (Nat.le_add_left 1 13) ?_
    rw [Nat.zero_add]; exact splice_I
  rw [e1, ← mR_put h0] at this
  exact this
end
instance : LitN 3 3 := ⟨rfl, by decide⟩
instance : LitN 5 5 := ⟨rfl, by decide⟩
instance : LitN 6 6 := ⟨rfl, by decide⟩
instance : LitN 7 7 := ⟨rfl, by decide⟩
instance : LitN 20 20 := ⟨rfl, by decide⟩
theorem blk_cells {bs : List MB} {ds : List TV} {n : Nat} (hn : n = bs.length + 4) (hds : ds = TV.v (.slice none 0 0) :: cls (default : Term)) : ((((idxFlat bCell 0 bs).drop (0 * 14)).take (bs.length * 14)) ++ ds).set (bs.length * 14 + 0) (.own n 0 15 0 0 0) = idxFlat bCell 0 (bs ++ [⟨0, [], default⟩]) := by
  have hl : (idxFlat bCell 0 bs).length = bs.length * 14 := idxFlat_len bCell_len _ _
  subst hn hds
  rw [Nat.zero_mul, List.drop_zero, List.take_of_length_le (by omega), List.set_append_right _ _ (by omega), hl, Nat.add_zero, Nat.sub_self, List.set_cons_zero, idxFlat_append, Nat.zero_add]
  rfl
theorem mR_addB {Z : Root} {L : List U8} {s : MS} : mR Z L s.addB = Z :: ⟨0, some (84, mCells L s.addB)⟩ :: rl s.gl 125 s.loops :: ⟨s.gb + 1, some (64, idxFlat bCell 0 (s.bs ++ [⟨0, [], default⟩]))⟩ :: (s.bs.map bRow ++ [⟨0, some (67, [])⟩]) := by
  have : s.addB.bs.map bRow = s.bs.map bRow ++ [⟨0, some (67, [])⟩] := List.map_append
  show _ :: _ :: _ :: _ :: s.addB.bs.map bRow = _
  rw [this]; rfl
theorem mC_addB {L : List U8} {s : MS} : spliceT (mCells L s) 9 [TV.own 3 (s.gb + 1) 14 0 (s.bs.length + 1) (s.bs.length + 1)] = mCells L s.addB := by
  have : s.addB.bs.length = s.bs.length + 1 := by simp [MS.addB]
  show _ = [_, _, _, _, _, _, _, _, _, TV.own 3 (s.gb + 1) 14 0 s.addB.bs.length s.addB.bs.length]
  rw [this]; rfl
theorem blk_end {Z : Root} {L : List U8} {s : MS} {ds c0 : List TV} {C : List TV} {n : Nat} (hn : n = s.bs.length + 4) (hds : ds = TV.v (.slice none 0 0) :: cls (default : Term)) (hC : C = mCells L s.addB) : (((mR Z L s).set 3 ⟨s.gb + 1, some (64, c0)⟩).set 1 ⟨0, some (84, C)⟩).set 3 ⟨s.gb + 1, some (64, ((((idxFlat bCell 0 s.bs).drop (0 * 14)).take (s.bs.length * 14)) ++ ds).set (s.bs.length * 14 + 0) (.own n 0 15 0 0 0))⟩ ++ [⟨0, some (67, [])⟩] = mR Z L s.addB := by
  rw [blk_cells hn hds, hC, mR_addB]; rfl
section
variable {P : Program} {X : Cx} {E : TEnv} {A ex : List Root}
theorem end_get {n : Nat} {c : Root} (hn : n = A.length) : (A ++ c :: ex)[n]? = some c := by
  subst hn; rw [List.getElem?_append_right (Nat.le_refl _), Nat.sub_self]; rfl
theorem end_set {n : Nat} {c d : Root} (hn : n = A.length) : (A ++ c :: ex).set n d = A ++ d :: ex := by
  subst hn; rw [List.set_append_right _ _ (Nat.le_refl _), Nat.sub_self]; rfl
theorem opt_store_end {t : TypeId} {x y : Operand} {n i g : Nat} {e : TypeId} {cs : List TV} {a : TV} {ag : Bool} {Th : List Root} [hT : TyI P t ag n] (hTh : Th = A ++ ⟨g, some (e, cs)⟩ :: ex) (hi : i = A.length) (hx : evTV E x = some (.pt i g 0)) (hy : evTV E y = some a) (o1 : okOpd P x = true) (o2 : okOpd P y = true) (ha : a.noTup) (hn : a.cells.length = n) (hl : cs.length = n) (h0 : Nat.blt 0 n = true) :
    OpT P X E Th (.store t x y) (.tup []) (A ++ ⟨g, some (e, a.cells)⟩ :: ex) (.at i 0 n) := by
  subst hTh
  have := opt_store_row (X := X) (hT := hT) (Th := A ++ ⟨g, some (e, cs)⟩ :: ex) hx hy (end_get hi) o1 o2 ha hn hl h0
  rw [end_set hi] at this
  exact this
theorem fini_tc {Th : List Root} {fn : Func} {k l : Tmp} {t : TypeId} {i g n : Nat} {e' : TypeId} {cs : List TV} {x : TV} {R : TV → List Root → Prop} {e : AExit} [hT : TyI P t true n] (he : ∀ id, e ≠ .exit id) (hr : fn.results = #[.tmp k, .cell l t]) (hx : lkT E k = some x) (nx : noTupB x = true) (hv : lkT E l = some (.pt i g 0)) (hi : Th[i]? = some ⟨g, some (e', cs)⟩) (hl : cs.length = n) (h0 : Nat.blt 0 n = true) (h : R (.tup [x, .agg cs]) Th) : FinI P X fn R e E Th :=
  ⟨he, fun T G p hs => by
    rw [Nat.blt_eq] at h0
    obtain ⟨u, g1, g2⟩ := hs.en k _ hx
    obtain ⟨w, h1, h2⟩ := hs.en l _ hv
    obtain ⟨a, v, rfl, h3, h4⟩ := load_pt (P := P) (t := t) hs h2 hi (by omega) (by omega)
    rw [List.drop_zero, ← hl, List.take_length] at h4
    exact ⟨.tuple #[u, v], _, by simp [resultsA, hr, Array.getD_eq_getD_getElem?, h1, h3, g1, g2.noTup (noTupB_ok nx), h4.noTup (noTupB_ok (x := .agg cs) rfl)], .tup (.cons g2 (.cons h4 .nil)), h⟩⟩
end
def Z0 : Root := ⟨0, some (34, [ti 0, ti 0, ti 0, ti 0, ti 0, .v (.slice none 0 0), .v (.slice none 0 0), .v (.slice none 0 0)])⟩
theorem lo_rows {n : Nat} : ∀ bs : List MB, LoR n (bs.map bRow)
  | [] => trivial
  | b :: bs => ⟨fun c hc => Lo.cl (flat_cl _ c hc), lo_rows bs⟩
theorem lo_idx {n : Nat} : ∀ (bs : List MB) (k : Nat), k + bs.length + 4 ≤ n → ∀ c ∈ idxFlat bCell k bs, Lo n c
  | [], k, _, c, hc => by simp [idxFlat] at hc
  | b :: bs, k, h, c, hc => by
    simp only [List.length_cons] at h
    rcases List.mem_append.1 hc with hc | hc
    · rcases List.mem_cons.1 hc with rfl | hc
      · exact .own (by rw [Nat.blt_eq]; omega)
      · exact .cl (cls_cl b.t c hc)
    · exact lo_idx bs (k + 1) (by omega) c hc
theorem lo_mR {L : List U8} {s : MS} : LoR (mR Z0 L s).length (mR Z0 L s) := by
  have hl : (mR Z0 L s).length = s.bs.length + 4 := mR_len
  refine ⟨?_, ?_, ?_, ?_, lo_rows _⟩
  · exact lo_all rfl
  · intro c hc
    change c ∈ mCells L s at hc
    simp only [mCells, List.mem_cons, List.not_mem_nil, or_false] at hc
    rcases hc with rfl | rfl | rfl | rfl | rfl | rfl | rfl | rfl | rfl | rfl
    · exact .cl (lst_cl _)
    · exact .cl (.v _)
    · exact .cl (.v _)
    · exact .cl (.v _)
    · exact .cl (.v _)
    · exact .cl (.v _)
    · exact .cl (.v _)
    · exact .cl (lst_cl _)
    · exact .own (by rw [Nat.blt_eq, hl]; omega)
    · exact .own (by rw [Nat.blt_eq, hl]; omega)
  · intro c hc; exact Lo.cl (flat_cl _ c hc)
  · exact lo_idx _ _ (by rw [hl]; omega)
theorem mR_cs {bs : List MB} (h : 0 < bs.length) : Nat.blt 0 (idxFlat bCell 0 bs).length = true := by rw [Nat.blt_eq, idxFlat_len bCell_len]; omega
theorem opt_setT0 {X : Cx} {E : TEnv} {Z : Root} {L : List U8} {s : MS} {t : Term} {x y : Operand} {n k : Nat} {tt : TypeId} [hT : TyI Tryd.prog tt true 13] (hx : evTV E x = some (.pt 3 s.gb n)) (hy : evTV E y = some (Enc.tv t)) (o1 : okOpd Tryd.prog x = true) (o2 : okOpd Tryd.prog y = true) (hn : n = k * 14 + 1) (hk : k < s.bs.length) :
    OpT Tryd.prog X E (mR Z L s) (.store tt x y) (.tup []) (mR Z L (s.setT k t)) (.at 3 n (n + 13)) := by
  have := opt_setT (X := X) (Z := Z) (L := L) (ex := []) (tt := tt) hx hy o1 o2 hn hk
  rw [List.append_nil, List.append_nil] at this
  exact this
theorem opt_subNN {P : Program} {X : Cx} {E : TEnv} {Th : List Root} {t u : TypeId} {x y : Operand} {a b : Nat} (hx : evTV E x = some (ti (a : Int))) (hy : evTV E y = some (ti (b : Int))) (o1 : okOpd P x = true) (o2 : okOpd P y = true) (h : b ≤ a) (ha : a < 2 ^ 62) : OpT P X E Th (.binOp .sub t x y u) (ti ((a - b : Nat) : Int)) Th .no := by
  have := opt_sub (P := P) (X := X) (Th := Th) (t := t) (u := u) hx hy o1 o2 (by constructor <;> omega)
  rw [show (a : Int) - (b : Int) = ((a - b : Nat) : Int) by omega] at this
  exact this
end Go.Ab
namespace Go.Ab
open Go.Proofs
def MB.blk (b : MB) : Block := ⟨b.i, b.t⟩
theorem dr_blocks {Th : List Root} {t : Bool} : ∀ (bs : List MB) (k : Nat), (∀ j b, bs[j]? = some b → Th[j + k + 4]? = some (bRow b)) → (∀ b ∈ bs, b.i.length < 2 ^ 62) → Drs Th false (idxFlat bCell k bs) ((bs.map MB.blk).flatMap cls)
  | [], k, _, _ => .nil
  | b :: bs, k, h, hl => by
    have h0 := h 0 b rfl
    rw [Nat.zero_add] at h0
    have ih := dr_blocks (t := t) bs (k + 1) (fun j c hj => by have := h (j + 1) c (by simpa using hj); rwa [show j + 1 + k + 4 = j + (k + 1) + 4 by omega] at this) fun c hc => hl c (by simp [hc])
    show Drs Th false (ownl (k + 4) b.g b.i :: (cls b.t ++ idxFlat bCell (k + 1) bs)) (lst false b.i :: (cls b.t ++ (bs.map MB.blk).flatMap cls))
    refine .cons (dr_own h0 (hl b (by simp)) (Nat.le_refl _)) ?_
    have key : ∀ (us vs ws : List TV), (∀ c ∈ us, Cl c) → Drs Th false vs ws → Drs Th false (us ++ vs) (us ++ ws) := by
      intro us vs ws hu hd
      induction us with
      | nil => exact hd
      | cons u us ih2 => exact .cons (.cl (hu u (by simp))) (ih2 fun c hc => hu c (by simp [hc]))
    exact key _ _ _ (cls_cl _) ih
theorem dr_code {L : List U8} {s : MS} {ex : List Root} {R0 : Root} (h1 : ∀ b ∈ s.bs, b.i.length < 2 ^ 62) (h2 : s.bs.length < 2 ^ 62) (h3 : s.loops.length < 2 ^ 62) : Dr ((mR Z0 L s ++ ex).set 0 R0) false (.agg [ti s.grp, ti s.sub, ti s.regs, ti s.slots, ti s.params, lst false s.arrs, ownl 2 s.gl s.loops, .own 3 s.gb 14 0 s.bs.length s.bs.length]) (Enc.tv s.code) := by
  refine .agg (cs' := [ti s.grp, ti s.sub, ti s.regs, ti s.slots, ti s.params, lst false s.arrs, lst false s.loops, lst false (s.bs.map MB.blk)]) (.cons (.cl (.v _)) (.cons (.cl (.v _)) (.cons (.cl (.v _)) (.cons (.cl (.v _)) (.cons (.cl (.v _)) (.cons (.cl (lst_cl _)) (.cons (dr_own (g := s.gl) (e := 125) rfl h3 (Nat.le_refl _)) (.cons ?_ .nil))))))))
  have hl : (idxFlat bCell 0 s.bs).length = s.bs.length * 14 := idxFlat_len bCell_len _ _
  have e : lst false (s.bs.map MB.blk) = .fz false 14 s.bs.length ((s.bs.map MB.blk).flatMap cls) := by
    show TV.fz false (Enc.sz Block) (s.bs.map MB.blk).length _ = _
    rw [List.length_map]; rfl
  rw [e]
  refine .own (e := 64) (cs := idxFlat bCell 0 s.bs) rfl (by rw [hl]; omega) (Nat.le_refl _) h2 (by decide) ?_
  rw [Nat.zero_mul, List.drop_zero, List.take_of_length_le (by omega)]
  refine dr_blocks (t := false) s.bs 0 (fun j b hj => ?_) h1
  rw [List.getElem?_set_ne (by omega), Nat.add_zero]
  exact mR_row hj
theorem dr_code0 {L : List U8} {s : MS} {R0 : Root} (h1 : ∀ b ∈ s.bs, b.i.length < 2 ^ 62) (h2 : s.bs.length < 2 ^ 62) (h3 : s.loops.length < 2 ^ 62) : Dr ((mR Z0 L s).set 0 R0) false (.agg [ti s.grp, ti s.sub, ti s.regs, ti s.slots, ti s.params, lst false s.arrs, ownl 2 s.gl s.loops, .own 3 s.gb 14 0 s.bs.length s.bs.length]) (Enc.tv s.code) := by
  have h := dr_code (L := L) (s := s) (ex := []) (R0 := R0) h1 h2 h3
  rw [List.append_nil] at h
  exact h
theorem St.dr {L : List U8} {s : MS} {A nb nl : Nat} {lim rg : Int} {R0 : Root} (h : St s A lim nb nl rg) (hA : A ≤ 2 ^ 16) : Dr ((mR Z0 L s).set 0 R0) false (.agg [ti s.grp, ti s.sub, ti s.regs, ti s.slots, ti s.params, lst false s.arrs, ownl 2 s.gl s.loops, .own 3 s.gb 14 0 s.bs.length s.bs.length]) (Enc.tv s.code) :=
  dr_code0 (fun b hb => by have := h.mi.il b hb; omega) (by have := h.mi.bl; omega) (by have := h.mi.ll; omega)
theorem St.fit {s : MS} {A nb nl : Nat} {rg : Int} (h : St s A nb nb nl rg) (h0 : 0 < nb) (hA : A ≤ 2 ^ 16) (hr : rg ≤ 256) : Fit s.code := by
  refine MI.fit (A := A) ?_ (by rw [h.nb]; exact h0) hA (by rw [h.rg]; exact hr)
  rw [h.nb]; exact h.mi
end Go.Ab
