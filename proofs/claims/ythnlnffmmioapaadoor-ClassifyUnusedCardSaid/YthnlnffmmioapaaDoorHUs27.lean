/-
  Unused rules are exactly those whose names no reading has: ClassifyUnused returns true for all inputs, on every run; the tables that the row lists are as the program's text lays them.
-/
import Derived.Test.YthnlnffmmioapaaDoorMHUs2728
import Derived.Test.YthnlnffmmioapaaDoorTie
import Derived.Test.YthnlnffmmioapaaDoorCards
import Derived.SevenTiedAt
namespace Go.Proofs.YthnlnffmmioapaaDoor
open Go.ChangeShapes Go.WideShapes Go.ChangeAt Go.RowKit Go.Deep
namespace HUs27
def laid : List (String × DataW Unit) := Rows.classifyUnusedRow.laid
theorem own : ownKnob Tryd.prog.godebug = none := by kernel_rfl
theorem laidOut : laidOutB Tryd.prog = true := by kernel_rfl
theorem door_met (os : Os) (args : Array Value) : laidMetH Tryd.prog laid ((World.doorLaid Tryd.prog 47 os).forCall (fun _ _ => 0) ⟨#[], args, []⟩).memory :=
  laidMetH_of_parts3 (fuel := 8) (laidMet_of_run' 8 (by kernel_rfl) (by kernel_rfl)) (by kernel_rfl) (by kernel_rfl)
set_option maxRecDepth 100000 in
theorem f_lifted (os : Os) (started : os.Started) (H : Type) (enc : TypeId × Value → H) :
    ReturnsInHanded {} Tryd.checked os 9 .any (fun w args => (Rows.classifyUnusedSpec.pre enc Tryd.prog Tryd.f9 [] false w args ∧ laidMetH Tryd.prog laid w) ∧ sizedMet enc Tryd.prog Tryd.f9 (OpenSpec.ofChange Rows.classifyUnusedSpec) false w args) (Rows.classifyUnusedSpec.post enc Tryd.prog Tryd.f9 false true false false) := by
  refine changeAndS (C := Tryd.checked) (X := fun w _ => laidMetH Tryd.prog laid w) (fun _ _ _ hh h => h.of_heap hh) own started (by kernel_rfl) Tryd.func9
    (ChangeSpec.witness_shaped (enc := enc) (C := Tryd.checked) (os := os) (X := fun w _ => laidMetH Tryd.prog laid w) false (World.doorLaid Tryd.prog 47 os) #[.slice none 0 0, .slice none 0 0, .slice none 0 0, .slice none 0 0, .slice none 0 0] 8 rfl (World.shaped_of_RefB (by kernel_rfl) (by kernel_rfl)) (by kernel_rfl) (by kernel_rfl) (by kernel_rfl) (door_met os _)) ?_
  intro W base args ds gs before hval0 hW _ hsz0 hLd hsh _
  have hsz : (DataW.weightsEach Tryd.prog (Tryd.f9.params.toList ++ Rows.classifyUnusedSpec.plain.varTypes Tryd.prog) (ds ++ gs)).all (· ≤ reachBytes) = true := hsz0
  clear hsz0
  have hval : ∀ (j : Nat) t v, Tryd.f9.params[j]? = some t → args[j]? = some v → Value.okWide Tryd.prog W .any base t v := hval0
  have hW' := hW
  obtain ⟨p, q, hA0, hV, rfl, _, _⟩ := hW
  have hA : DataW.TrodAll enc Tryd.prog W 0 (fun _ => true) true Tryd.f9.params.toList args.toList ds p := hA0
  rw [Tryd.params9] at hA hval hsz
  have hB := hA
  obtain ⟨v0, v1, v2, v3, v4, d0, d1, d2, d3, d4, p0, p1, p2, p3, p4, rfl, rfl, _, h0, h1, h2, h3, h4⟩ := trodAll_five hA
  obtain ⟨rfl, rfl⟩ := trodVars_none hV
  clear hA0 hval0
  simp only [List.append_nil] at hW'
  have hlt : ∀ x ∈ p, x.block < W.heap.size := fun x hx => by simpa using hW'.lt x hx
  obtain ⟨x0, k0⟩ := Ruls.openT (okWide_slice Tryd.underlying41 (hval 0 41 v0 rfl rfl)) h0 (light_each hsz 0 rfl rfl)
  obtain ⟨x1, k1⟩ := Strs.openT (okWide_slice Tryd.underlying25 (hval 1 25 v1 rfl rfl)) h1 (light_each hsz 1 rfl rfl)
  obtain ⟨x2, k2⟩ := Strs.openT (okWide_slice Tryd.underlying25 (hval 2 25 v2 rfl rfl)) h2 (light_each hsz 2 rfl rfl)
  obtain ⟨x3, k3⟩ := Rdns.openT (okWide_slice Tryd.underlying30 (hval 3 30 v3 rfl rfl)) h3 (light_each hsz 3 rfl rfl)
  obtain ⟨x4, k4⟩ := Rdns.openT (okWide_slice Tryd.underlying30 (hval 4 30 v4 rfl rfl)) h4 (light_each hsz 4 rfl rfl)
  refine ((ClassifyUnused_sat v0 v1 v2 v3 v4 x0 x1 x2 x3 x4 W k0 k1 k2 k3 k4 (kdl_of (l := laid) hLd (by kernel_rfl)) (kfl_of (l := laid) hLd (by kernel_rfl)) (tbl_of (l := laid) hLd (by kernel_rfl))).at).mono fun e W' ⟨v, L', he, hp, hv, _⟩ => ?_
  subst he; subst hv
  exact ⟨_, rfl, _, _, _, [], p, [], hW', trodAll_mk1 (shut_bool Tryd.underlying4 true), again_all laidOut hp.below (by kernel_rfl) hB hlt, rfl, hp.below.frame _, fun h => by cases h⟩
theorem f_holds : Rows.ClassifyUnusedSaid :=
  OpenClaim.holds_of_wide 9 Tryd.f9 rfl rfl rfl rfl rfl rfl rfl ⟨rfl, rfl, rfl, rfl, rfl⟩ rfl rfl rfl rfl rfl (by kernel_rfl) Tryd.func9 (by kernel_rfl)
    (of_decide_eq_true (by kernel_rfl)) (by unfold Func.isWrapper; first | (rw [if_pos (by decide +kernel)]; kernel_rfl) | (rw [if_neg (by decide +kernel)]; exact ⟨rfl, rfl⟩))
    (fun os started H enc _ => f_lifted os started H enc)
theorem card_holds : Rows.ClassifyUnusedCardSaid :=
  Claim7.holds_tied_plain_at .later [] [.data, .data, .data, .widerDeep, .funcs] true (true, "2c836386879df73821ef0b1c991e3cd3c97f28b290124db00bf8f85716237ae4") false f_holds (fun _ h => by cases h) (by kernel_rfl) (fun _ h => by cases h) classifyUnused_row_tie rfl ⟨rfl, rfl⟩ (by kernel_rfl) rfl
    (fun f fn hf hfn => by
      obtain rfl : f = 9 := Option.some.inj ((show Tryd.prog.funcNamed "apograph/apographlaw27.ClassifyUnused" = some 9 by kernel_rfl).symm.trans hf) |>.symm
      obtain rfl : fn = Tryd.f9 := (Option.some.inj (Tryd.func9.symm.trans hfn)).symm
      exact ⟨by kernel_rfl, fun j t ht => by
        rw [Tryd.params9] at ht
        have hm : t ∈ [41, 25, 25, 30, 30] := by simpa using Array.mem_of_getElem? ht
        have hall : ([41, 25, 25, 30, 30].all fun u => !Tryd.prog.wantsStandIn u) = true := by kernel_rfl
        exact (show Tryd.prog.wantsStandIn t = false by simpa using List.all_eq_true.1 hall t hm)⟩)
    (by kernel_rfl)
end HUs27
end Go.Proofs.YthnlnffmmioapaaDoor
