/- LiveNeeds: the law at its function, lifted to the world, is the given row; the card ties the listed table. Holds for every input that the row speaks of; no further condition. -/
import Derived.WideKeyPair
import Derived.Test.YtaaeeiheeihjaaaDoorA10
import Derived.Test.YtaaeeiheeihjaaaDoorG32n
import Derived.Test.YtaaeeiheeihjaaaDoorBLiveNeeds
set_option linter.all false
namespace Go.Proofs.YtaaeeiheeihjaaaDoor
open Go Go.ChangeShapes Go.WideShapes Go.ChangeAt Go.RowKit
set_option maxRecDepth 100000 in
theorem liveNeeds_lifted (os : Os) (started : os.Started) (H : Type) (enc : TypeId × Value → H) :
    ReturnsInHanded {} Tryd.checked os 5 .any (fun w args => (Rows.liveNeedsSpec.pre enc Tryd.prog Tryd.f5 [] false w args ∧ laidMetH Tryd.prog laidL w) ∧ sizedMet enc Tryd.prog Tryd.f5 (OpenSpec.ofChange Rows.liveNeedsSpec) false w args)
      (Rows.liveNeedsSpec.post enc Tryd.prog Tryd.f5 false true false false) := by
  refine returnsInHanded_of_change_and (C := Tryd.checked) (X := fun w _ => laidMetH Tryd.prog laidL w) (fun _ _ _ hh h => h.of_heap hh) own started (by kernel_rfl) Ab.fn5
    (ChangeSpec.witness_shaped (enc := enc) (C := Tryd.checked) (os := os) (X := fun w _ => laidMetH Tryd.prog laidL w) false (World.doorLaid Tryd.prog 400 os) #[.agg #[.slice none 0 0], .agg #[.int .u8 0, .int .u8 0], .bool false] 8 rfl (World.shaped_of_RefB (by kernel_rfl) (by kernel_rfl)) (by kernel_rfl) (by kernel_rfl) (by kernel_rfl) (door_met os _)) ?_
  intro W base args ds gs before hval0 hW _ hwt hL _
  have hval : ∀ (j : Nat) t v, Tryd.f5.params[j]? = some t → args[j]? = some v → Value.okWide Tryd.prog W .any base t v := hval0
  have hW' := hW
  have hlt := hW.lt
  obtain ⟨p, q, hA0, hV, rfl, hfz, hnd⟩ := hW
  have hA : DataW.TrodAll enc Tryd.prog W 0 (fun _ => true) true [24, 52, 4] args.toList ds p := hA0
  obtain ⟨v0, v1, v2, d0, d1, d2, p0, p1, p2, rfl, rfl, rfl, h0, h1, h2⟩ := trodAll_three hA
  obtain ⟨rfl, rfl⟩ := trodVars_none hV
  simp only [List.append_nil] at hW' hlt hwt
  have hT := of_laid hL
  have w0 : ∀ n ∈ d0.weights Tryd.prog 24, n ≤ reachBytes := fun n hn => by
    have := List.all_eq_true.1 hwt n (DataW.weights_mem_each (j := 0) (t := 24) rfl rfl n hn)
    simpa using this
  obtain ⟨L, Hp, ρ, a0, hL2, hR⟩ := Ab.raw_open hT (hval 0 24 v0 rfl rfl) h0 w0
  obtain ⟨x1, y1, rfl, rfl, rfl, wx1, wy1⟩ := Go.WideMaps.open_pair (k := 52) (e := 5) (q := .u8) ⟨by kernel_rfl, by kernel_rfl, by kernel_rfl, by kernel_rfl⟩ (by kernel_rfl) (hval 1 52 v1 rfl rfl) h1
  have rx1 : 0 ≤ x1 ∧ x1 < 256 := by simp [Lit.wf, IntKind.min, IntKind.max, IntKind.signed, IntKind.bits] at wx1; omega
  obtain ⟨mx1, rfl⟩ : ∃ m : Nat, x1 = m := ⟨x1.toNat, by omega⟩
  have ry1 : 0 ≤ y1 ∧ y1 < 256 := by simp [Lit.wf, IntKind.min, IntKind.max, IntKind.signed, IntKind.bits] at wy1; omega
  obtain ⟨my1, rfl⟩ : ∃ m : Nat, y1 = m := ⟨y1.toNat, by omega⟩
  obtain ⟨b2, rfl, rfl, rfl⟩ := open_bool (t := 4) (by kernel_rfl) (hval 2 4 v2 rfl rfl) h2
  refine (Ab.pu_calls (k := 5) (ts := [Ab.Enc.tv (⟨L⟩ : Ab.Raw), .agg [.v (.int .u8 (mx1 : Int)), .v (.int .u8 (my1 : Int))], .v (.bool b2)]) (Ab.pu5 hL2 (by omega) (by omega)) (vs := [a0, .agg #[.int .u8 (mx1 : Int), .int .u8 (my1 : Int)], .bool b2]) hR.rel hR.ro hR.gl (.cons hR.vr (.cons (.agg (.cons (.flat rfl) (.cons (.flat rfl) .nil))) (.cons (.flat rfl) .nil))) (.cons hR.va (.cons (.of_flat rfl) (.cons (.of_flat rfl) .nil)))).mono fun e W' ⟨he, hb⟩ => ?_
  subst he
  exact ⟨_, rfl, post_of_below (pa := _) (pv := []) hW' (fun _ _ _ => trodAll_mk1 (shut_bool und4 _)) (fun sp hs => trodAll_mk3 (stays (by kernel_rfl) (by decide +kernel) h0 hb (fun x hx => hlt x (by simp [hx])) (fun x hx => hs x (by simp [hx]))) (stays (by kernel_rfl) (by decide +kernel) h1 hb (fun x hx => hlt x (by cases hx)) (fun x hx => hs x (by cases hx))) (stays (by kernel_rfl) (by decide +kernel) h2 hb (fun x hx => hlt x (by cases hx)) (fun x hx => hs x (by cases hx)))) (fun _ _ => rfl) (by simp) hb (ok_one (by kernel_rfl) rfl (okWide_bool_mk und4 _))⟩
theorem liveNeeds_holds : Rows.LiveNeedsSaid :=
  OpenClaim.holds_of_wide 5 Tryd.f5 rfl rfl rfl rfl rfl rfl rfl ⟨rfl, rfl, rfl, rfl, rfl⟩ rfl rfl rfl rfl rfl (by kernel_rfl) Ab.fn5 (by kernel_rfl)
    (of_decide_eq_true (by kernel_rfl)) (by unfold Func.isWrapper; first | (rw [if_pos (by decide +kernel)]; kernel_rfl) | (rw [if_neg (by decide +kernel)]; exact ⟨rfl, rfl⟩))
    (fun os started H enc _ => liveNeeds_lifted os started H enc)
theorem liveNeeds_card : Rows.LiveNeedsCardSaid :=
  Claim7.holds_tied_plain_at .later [] [.data] true (true, "376acd82c4def436431e55f2a43bbd667edc11391e5f2f82aee1a3e616220a7b") false
    liveNeeds_holds (fun _ h => by cases h) (by kernel_rfl) (fun _ h => by cases h) liveNeeds_row_tie rfl ⟨rfl, rfl⟩ (by kernel_rfl) rfl
    (fun f fn hf hfn => by
      obtain rfl : f = 5 := Option.some.inj ((show Tryd.prog.funcNamed "warpwright/warpwrightlaw15.LiveNeeds" = some 5 by kernel_rfl).symm.trans hf) |>.symm
      obtain rfl : fn = Tryd.f5 := (Option.some.inj (Ab.fn5.symm.trans hfn)).symm
      exact ⟨by kernel_rfl, fun j t ht => by
        have ht : (#[24, 52, 4] : Array TypeId)[j]? = some t := ht
        have hm : t ∈ [24, 52, 4] := by simpa using Array.mem_of_getElem? ht
        have hall : ([24, 52, 4].all fun u => !Tryd.prog.wantsStandIn u) = true := by kernel_rfl
        exact (show Tryd.prog.wantsStandIn t = false by simpa using List.all_eq_true.1 hall t hm)⟩)
    (by kernel_rfl)
#print axioms liveNeeds_card
end Go.Proofs.YtaaeeiheeihjaaaDoor
