/- LiveDefined: the law at its function, lifted to the world, is the given row; the card ties the listed table. Holds for every input that the row speaks of; no further condition. -/
import Derived.Test.YtaaeeiheeihjaaaDoorA10
import Derived.Test.YtaaeeiheeihjaaaDoorG30
import Derived.Test.YtaaeeiheeihjaaaDoorBLiveDefined
set_option linter.all false
namespace Go.Proofs.YtaaeeiheeihjaaaDoor
open Go Go.ChangeShapes Go.WideShapes Go.ChangeAt Go.RowKit
set_option maxRecDepth 100000 in
theorem liveDefined_lifted (os : Os) (started : os.Started) (H : Type) (enc : TypeId × Value → H) :
    ReturnsInHanded {} Tryd.checked os 7 .any (fun w args => (Rows.liveDefinedSpec.pre enc Tryd.prog Tryd.f7 [] false w args ∧ laidMetH Tryd.prog laidL w) ∧ sizedMet enc Tryd.prog Tryd.f7 (OpenSpec.ofChange Rows.liveDefinedSpec) false w args)
      (Rows.liveDefinedSpec.post enc Tryd.prog Tryd.f7 false true false false) := by
  refine returnsInHanded_of_change_and (C := Tryd.checked) (X := fun w _ => laidMetH Tryd.prog laidL w) (fun _ _ _ hh h => h.of_heap hh) own started (by kernel_rfl) Ab.fn7
    (ChangeSpec.witness_shaped (enc := enc) (C := Tryd.checked) (os := os) (X := fun w _ => laidMetH Tryd.prog laidL w) false (World.doorLaid Tryd.prog 400 os) #[.agg #[.slice none 0 0]] 8 rfl (World.shaped_of_RefB (by kernel_rfl) (by kernel_rfl)) (by kernel_rfl) (by kernel_rfl) (by kernel_rfl) (door_met os _)) ?_
  intro W base args ds gs before hval0 hW _ hwt hL _
  have hval : ∀ (j : Nat) t v, Tryd.f7.params[j]? = some t → args[j]? = some v → Value.okWide Tryd.prog W .any base t v := hval0
  have hW' := hW
  have hlt := hW.lt
  obtain ⟨p, q, hA0, hV, rfl, hfz, hnd⟩ := hW
  have hA : DataW.TrodAll enc Tryd.prog W 0 (fun _ => true) true [24] args.toList ds p := hA0
  obtain ⟨v0, d0, rfl, rfl, h0⟩ := trodAll_one hA
  obtain ⟨rfl, rfl⟩ := trodVars_none hV
  simp only [List.append_nil] at hW' hlt hwt
  have hT := of_laid hL
  have w0 : ∀ n ∈ d0.weights Tryd.prog 24, n ≤ reachBytes := fun n hn => by
    have := List.all_eq_true.1 hwt n (DataW.weights_mem_each (j := 0) (t := 24) rfl rfl n hn)
    simpa using this
  obtain ⟨L, Hp, ρ, a0, hL2, hR⟩ := Ab.raw_open hT (hval 0 24 v0 rfl rfl) h0 w0
  refine (Ab.pu_calls (k := 7) (ts := [Ab.Enc.tv (⟨L⟩ : Ab.Raw)]) (Ab.pu7 hL2) (vs := [a0]) hR.rel hR.ro hR.gl (.cons hR.vr .nil) (.cons hR.va .nil)).mono fun e W' ⟨he, hb⟩ => ?_
  subst he
  exact ⟨_, rfl, post_of_below (pa := _) (pv := []) hW' (fun _ _ _ => trodAll_mk1 (shut_bool und4 _)) (fun sp hs => trodAll_mk1 (stays (by kernel_rfl) (by decide +kernel) h0 hb (fun x hx => hlt x (by simp [hx])) (fun x hx => hs x (by simp [hx])))) (fun _ _ => rfl) (List.append_nil _).symm hb (ok_one (by kernel_rfl) rfl (okWide_bool_mk und4 _))⟩
theorem liveDefined_holds : Rows.LiveDefinedSaid :=
  OpenClaim.holds_of_wide 7 Tryd.f7 rfl rfl rfl rfl rfl rfl rfl ⟨rfl, rfl, rfl, rfl, rfl⟩ rfl rfl rfl rfl rfl (by kernel_rfl) Ab.fn7 (by kernel_rfl)
    (of_decide_eq_true (by kernel_rfl)) (by unfold Func.isWrapper; first | (rw [if_pos (by decide +kernel)]; kernel_rfl) | (rw [if_neg (by decide +kernel)]; exact ⟨rfl, rfl⟩))
    (fun os started H enc _ => liveDefined_lifted os started H enc)
theorem liveDefined_card : Rows.LiveDefinedCardSaid :=
  Claim7.holds_tied_plain_at .later [] [.data] true (true, "376acd82c4def436431e55f2a43bbd667edc11391e5f2f82aee1a3e616220a7b") false
    liveDefined_holds (fun _ h => by cases h) (by kernel_rfl) (fun _ h => by cases h) liveDefined_row_tie rfl ⟨rfl, rfl⟩ (by kernel_rfl) rfl
    (fun f fn hf hfn => by
      obtain rfl : f = 7 := Option.some.inj ((show Tryd.prog.funcNamed "warpwright/warpwrightlaw15.LiveDefined" = some 7 by kernel_rfl).symm.trans hf) |>.symm
      obtain rfl : fn = Tryd.f7 := (Option.some.inj (Ab.fn7.symm.trans hfn)).symm
      exact ⟨by kernel_rfl, fun j t ht => by
        have ht : (#[24] : Array TypeId)[j]? = some t := ht
        have hm : t ∈ [24] := by simpa using Array.mem_of_getElem? ht
        have hall : ([24].all fun u => !Tryd.prog.wantsStandIn u) = true := by kernel_rfl
        exact (show Tryd.prog.wantsStandIn t = false by simpa using List.all_eq_true.1 hall t hm)⟩)
    (by kernel_rfl)
#print axioms liveDefined_card
end Go.Proofs.YtaaeeiheeihjaaaDoor
