/- LiveRefuses: the law at its function, lifted to the world, is the given row; the card ties the listed table. Holds for every input that the row speaks of; no further condition. -/
import Derived.Test.YtaaeeiheeihjaaaDoorA10
import Derived.Test.YtaaeeiheeihjaaaDoorG35r
import Derived.Test.YtaaeeiheeihjaaaDoorBLiveRefuses
set_option linter.all false
namespace Go.Proofs.YtaaeeiheeihjaaaDoor
open Go Go.ChangeShapes Go.WideShapes Go.ChangeAt Go.RowKit
set_option maxRecDepth 100000 in
theorem liveRefuses_lifted (os : Os) (started : os.Started) (H : Type) (enc : TypeId × Value → H) :
    ReturnsInHanded {} Tryd.checked os 8 .any (fun w args => (Rows.liveRefusesSpec.pre enc Tryd.prog Tryd.f8 [] false w args ∧ laidMetH Tryd.prog laidL w) ∧ sizedMet enc Tryd.prog Tryd.f8 (OpenSpec.ofChange Rows.liveRefusesSpec) false w args)
      (Rows.liveRefusesSpec.post enc Tryd.prog Tryd.f8 false true false false) := by
  refine returnsInHanded_of_change_and (C := Tryd.checked) (X := fun w _ => laidMetH Tryd.prog laidL w) (fun _ _ _ hh h => h.of_heap hh) own started (by kernel_rfl) Ab.fn8
    (ChangeSpec.witness_shaped (enc := enc) (C := Tryd.checked) (os := os) (X := fun w _ => laidMetH Tryd.prog laidL w) false (World.doorLaid Tryd.prog 400 os) #[.agg #[.slice none 0 0], .int .u8 0, .int .i64 0] 8 rfl (World.shaped_of_RefB (by kernel_rfl) (by kernel_rfl)) (by kernel_rfl) (by kernel_rfl) (by kernel_rfl) (door_met os _)) ?_
  intro W base args ds gs before hval0 hW _ hwt hL _
  have hval : ∀ (j : Nat) t v, Tryd.f8.params[j]? = some t → args[j]? = some v → Value.okWide Tryd.prog W .any base t v := hval0
  have hW' := hW
  have hlt := hW.lt
  obtain ⟨p, q, hA0, hV, rfl, hfz, hnd⟩ := hW
  have hA : DataW.TrodAll enc Tryd.prog W 0 (fun _ => true) true [24, 5, 3] args.toList ds p := hA0
  obtain ⟨v0, v1, v2, d0, d1, d2, p0, p1, p2, rfl, rfl, rfl, h0, h1, h2⟩ := trodAll_three hA
  obtain ⟨rfl, rfl⟩ := trodVars_none hV
  simp only [List.append_nil] at hW' hlt hwt
  have hT := of_laid hL
  have w0 : ∀ n ∈ d0.weights Tryd.prog 24, n ≤ reachBytes := fun n hn => by
    have := List.all_eq_true.1 hwt n (DataW.weights_mem_each (j := 0) (t := 24) rfl rfl n hn)
    simpa using this
  obtain ⟨L, Hp, ρ, a0, hL2, hR⟩ := Ab.raw_open hT (hval 0 24 v0 rfl rfl) h0 w0
  obtain ⟨n1, rfl, rfl, rfl, w1⟩ := open_int (t := 5) (k := .u8) (by kernel_rfl) (hval 1 5 v1 rfl rfl) h1
  have r1 : 0 ≤ n1 ∧ n1 < 256 := by simp [Lit.wf, IntKind.min, IntKind.max, IntKind.signed, IntKind.bits] at w1; omega
  obtain ⟨m1, rfl⟩ : ∃ m : Nat, n1 = m := ⟨n1.toNat, by omega⟩
  obtain ⟨n2, rfl, rfl, rfl, _⟩ := open_int (t := 3) (k := .i64) (by kernel_rfl) (hval 2 3 v2 rfl rfl) h2
  refine (Ab.pu_calls (k := 8) (ts := [Ab.Enc.tv (⟨L⟩ : Ab.Raw), .v (.int .u8 (m1 : Int)), .v (.int .i64 n2)]) (Ab.pu8 hL2 (by omega)) (vs := [a0, .int .u8 (m1 : Int), .int .i64 n2]) hR.rel hR.ro hR.gl (.cons hR.vr (.cons (.flat rfl) (.cons (.flat rfl) .nil))) (.cons hR.va (.cons (.of_flat rfl) (.cons (.of_flat rfl) .nil)))).mono fun e W' ⟨he, hb⟩ => ?_
  subst he
  exact ⟨_, rfl, post_of_below (pa := _) (pv := []) hW' (fun _ _ _ => trodAll_mk1 (shut_bool und4 _)) (fun sp hs => trodAll_mk3 (stays (by kernel_rfl) (by decide +kernel) h0 hb (fun x hx => hlt x (by simp [hx])) (fun x hx => hs x (by simp [hx]))) (stays (by kernel_rfl) (by decide +kernel) h1 hb (fun x hx => hlt x (by cases hx)) (fun x hx => hs x (by cases hx))) (stays (by kernel_rfl) (by decide +kernel) h2 hb (fun x hx => hlt x (by cases hx)) (fun x hx => hs x (by cases hx)))) (fun _ _ => rfl) (by simp) hb (ok_one (by kernel_rfl) rfl (okWide_bool_mk und4 _))⟩
theorem liveRefuses_holds : Rows.LiveRefusesSaid :=
  OpenClaim.holds_of_wide 8 Tryd.f8 rfl rfl rfl rfl rfl rfl rfl ⟨rfl, rfl, rfl, rfl, rfl⟩ rfl rfl rfl rfl rfl (by kernel_rfl) Ab.fn8 (by kernel_rfl)
    (of_decide_eq_true (by kernel_rfl)) (by unfold Func.isWrapper; first | (rw [if_pos (by decide +kernel)]; kernel_rfl) | (rw [if_neg (by decide +kernel)]; exact ⟨rfl, rfl⟩))
    (fun os started H enc _ => liveRefuses_lifted os started H enc)
theorem liveRefuses_card : Rows.LiveRefusesCardSaid :=
  Claim7.holds_tied_plain_at .later [] [.data] true (true, "376acd82c4def436431e55f2a43bbd667edc11391e5f2f82aee1a3e616220a7b") false
    liveRefuses_holds (fun _ h => by cases h) (by kernel_rfl) (fun _ h => by cases h) liveRefuses_row_tie rfl ⟨rfl, rfl⟩ (by kernel_rfl) rfl
    (fun f fn hf hfn => by
      obtain rfl : f = 8 := Option.some.inj ((show Tryd.prog.funcNamed "warpwright/warpwrightlaw15.LiveRefuses" = some 8 by kernel_rfl).symm.trans hf) |>.symm
      obtain rfl : fn = Tryd.f8 := (Option.some.inj (Ab.fn8.symm.trans hfn)).symm
      exact ⟨by kernel_rfl, fun j t ht => by
        have ht : (#[24, 5, 3] : Array TypeId)[j]? = some t := ht
        have hm : t ∈ [24, 5, 3] := by simpa using Array.mem_of_getElem? ht
        have hall : ([24, 5, 3].all fun u => !Tryd.prog.wantsStandIn u) = true := by kernel_rfl
        exact (show Tryd.prog.wantsStandIn t = false by simpa using List.all_eq_true.1 hall t hm)⟩)
    (by kernel_rfl)
#print axioms liveRefuses_card
end Go.Proofs.YtaaeeiheeihjaaaDoor
