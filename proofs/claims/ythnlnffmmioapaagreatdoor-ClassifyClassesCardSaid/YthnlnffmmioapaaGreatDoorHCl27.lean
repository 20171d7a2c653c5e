/-
  The reference finds the classes of readings, of places and the rules that no place needs as the program does: ClassifyClasses returns true for every rules, bases and places, on every run; the tables that the row lists are as the program's text lays them.
-/
import Derived.Test.YthnlnffmmioapaaGreatDoorMHCl2734
import Derived.Test.YthnlnffmmioapaaGreatDoorTie
import Derived.Test.YthnlnffmmioapaaGreatDoorCards
import Derived.SevenTiedAt
namespace Go.Proofs.YthnlnffmmioapaaGreatDoor
open Go.ChangeShapes Go.WideShapes Go.ChangeAt Go.RowKit Go.Deep
namespace HCl27
def laid : List (String × DataW Unit) := Rows.classifyClassesRow.laid
theorem own : ownKnob Tryz.prog.godebug = none := by kernel_rfl
theorem laidOut : laidOutB Tryz.prog = true := by kernel_rfl
theorem door_met (os : Os) (args : Array Value) : laidMetH Tryz.prog laid ((World.doorLaid Tryz.prog 47 os).forCall (fun _ _ => 0) ⟨#[], args, []⟩).memory :=
  laidMetH_of_parts3 (fuel := 8) (laidMet_of_run' 8 (by kernel_rfl) (by kernel_rfl)) (by kernel_rfl) (by kernel_rfl)
set_option maxRecDepth 100000 in
theorem f_lifted (os : Os) (started : os.Started) (H : Type) (enc : TypeId × Value → H) :
    ReturnsInHanded {} Tryz.checked os 4 .any (fun w args => (Rows.classifyClassesSpec.pre enc Tryz.prog Tryz.f4 [] false w args ∧ laidMetH Tryz.prog laid w) ∧ sizedMet enc Tryz.prog Tryz.f4 (OpenSpec.ofChange Rows.classifyClassesSpec) false w args) (Rows.classifyClassesSpec.post enc Tryz.prog Tryz.f4 false true false false) := by
  refine changeAndS (C := Tryz.checked) (X := fun w _ => laidMetH Tryz.prog laid w) (fun _ _ _ hh h => h.of_heap hh) own started (by kernel_rfl) Tryz.func4
    (ChangeSpec.witness_shaped (enc := enc) (C := Tryz.checked) (os := os) (X := fun w _ => laidMetH Tryz.prog laid w) false (World.doorLaid Tryz.prog 47 os) #[.slice none 0 0, .slice none 0 0, .slice none 0 0] 8 rfl (World.shaped_of_RefB (by kernel_rfl) (by kernel_rfl)) (by kernel_rfl) (by kernel_rfl) (by kernel_rfl) (door_met os _)) ?_
  intro W base args ds gs before hval0 hW _ hsz0 hLd hsh _
  have hsz : (DataW.weightsEach Tryz.prog (Tryz.f4.params.toList ++ Rows.classifyClassesSpec.plain.varTypes Tryz.prog) (ds ++ gs)).all (· ≤ reachBytes) = true := hsz0
  clear hsz0
  have hval : ∀ (j : Nat) t v, Tryz.f4.params[j]? = some t → args[j]? = some v → Value.okWide Tryz.prog W .any base t v := hval0
  have hW' := hW
  obtain ⟨p, q, hA0, hV, rfl, _, _⟩ := hW
  have hA : DataW.TrodAll enc Tryz.prog W 0 (fun _ => true) true Tryz.f4.params.toList args.toList ds p := hA0
  rw [Tryz.params4] at hA hval hsz
  have hB := hA
  obtain ⟨v0, v1, v2, d0, d1, d2, p0, p1, p2, rfl, rfl, _, h0, h1, h2⟩ := trodAll_three hA
  obtain ⟨rfl, rfl⟩ := trodVars_none hV
  clear hA0 hval0
  simp only [List.append_nil] at hW'
  have hlt : ∀ x ∈ p, x.block < W.heap.size := fun x hx => by simpa using hW'.lt x hx
  obtain ⟨x0, k0⟩ := Ruls.openT (okWide_slice Tryz.underlying39 (hval 0 39 v0 rfl rfl)) h0 (light_each hsz 0 rfl rfl)
  obtain ⟨x1, k1⟩ := Wtb.openT (okWide_slice Tryz.underlying40 (hval 1 40 v1 rfl rfl)) h1 (light_each hsz 1 rfl rfl)
  obtain ⟨x2, k2⟩ := UnzC.openT (okWide_slice Tryz.underlying41 (hval 2 41 v2 rfl rfl)) h2 (light_each hsz 2 rfl rfl)
  refine ((ClassifyClasses_sat v0 v1 v2 x0 x1 x2 W k0 k1 k2 (kdl_of (l := laid) hLd (by kernel_rfl)) (kfl_of (l := laid) hLd (by kernel_rfl)) (tbl_of (l := laid) hLd (by kernel_rfl))).at).mono fun e W' ⟨v, L', he, hp, hv, _⟩ => ?_
  subst he; subst hv
  exact ⟨_, rfl, _, _, _, [], p, [], hW', trodAll_mk1 (shut_bool Tryz.underlying4 true), again_all laidOut hp.below (by kernel_rfl) hB hlt, rfl, hp.below.frame _, fun h => by cases h⟩
theorem f_holds : Rows.ClassifyClassesSaid :=
  OpenClaim.holds_of_wide 4 Tryz.f4 rfl rfl rfl rfl rfl rfl rfl ⟨rfl, rfl, rfl, rfl, rfl⟩ rfl rfl rfl rfl rfl (by kernel_rfl) Tryz.func4 (by kernel_rfl)
    (of_decide_eq_true (by kernel_rfl)) (by unfold Func.isWrapper; first | (rw [if_pos (by decide +kernel)]; kernel_rfl) | (rw [if_neg (by decide +kernel)]; exact ⟨rfl, rfl⟩))
    (fun os started H enc _ => f_lifted os started H enc)
theorem card_holds : Rows.ClassifyClassesCardSaid :=
  Claim7.holds_tied_plain_at .later [] [.data, .data, .data, .widerDeep, .funcs] true (true, "cb59d2f9f0d220fb78aba16d2fe1c3ba483930d7f9f18fc3ffc931519814ddf9") false f_holds (fun _ h => by cases h) (by kernel_rfl) (fun _ h => by cases h) classifyClasses_row_tie rfl ⟨rfl, rfl⟩ (by kernel_rfl) rfl
    (fun f fn hf hfn => by
      obtain rfl : f = 4 := Option.some.inj ((show Tryz.prog.funcNamed "apograph/apographlaw27.ClassifyClasses" = some 4 by kernel_rfl).symm.trans hf) |>.symm
      obtain rfl : fn = Tryz.f4 := (Option.some.inj (Tryz.func4.symm.trans hfn)).symm
      exact ⟨by kernel_rfl, fun j t ht => by
        rw [Tryz.params4] at ht
        have hm : t ∈ [39, 40, 41] := by simpa using Array.mem_of_getElem? ht
        have hall : ([39, 40, 41].all fun u => !Tryz.prog.wantsStandIn u) = true := by kernel_rfl
        exact (show Tryz.prog.wantsStandIn t = false by simpa using List.all_eq_true.1 hall t hm)⟩)
    (by kernel_rfl)
end HCl27
end Go.Proofs.YthnlnffmmioapaaGreatDoor
