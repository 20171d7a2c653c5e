/-
  On a tree the score is parsimony's, and the states that are possible for the archetype are those with which the table has this score at the root: TopArchetypeTree returns true for every tree and all numbers, on every run; the tables of Go's library that the row lists are as the program's text lays them.
-/
import Derived.Test.YtdigdmnnjbndlaaGreatDoorMHTa3933
import Derived.Test.YtdigdmnnjbndlaaGreatDoorTie
import Derived.Test.YtdigdmnnjbndlaaGreatDoorCards
import Derived.SevenTiedAt
namespace Go.Proofs.YtdigdmnnjbndlaaGreatDoor
open Go.ChangeShapes Go.WideShapes Go.ChangeAt Go.RowKit Go.Deep
namespace HTa39
def laid : List (String × DataW Unit) := Rows.topArchetypeTreeRow.laid
theorem own : ownKnob Tryz.prog.godebug = none := by kernel_rfl
theorem laidOut : laidOutB Tryz.prog = true := by kernel_rfl
set_option maxRecDepth 100000 in
theorem f_lifted (os : Os) (started : os.Started) (H : Type) (enc : TypeId × Value → H) :
    ReturnsInHanded {} Tryz.checked os 6 .any (fun w args => (Rows.topArchetypeTreeSpec.pre enc Tryz.prog Tryz.f6 [] false w args ∧ laidMetH Tryz.prog laid w) ∧ sizedMet enc Tryz.prog Tryz.f6 (OpenSpec.ofChange Rows.topArchetypeTreeSpec) false w args) (Rows.topArchetypeTreeSpec.post enc Tryz.prog Tryz.f6 false true false false) := by
  refine changeAndS (C := Tryz.checked) (X := fun w _ => laidMetH Tryz.prog laid w) (fun _ _ _ hh h => h.of_heap hh) own started (by kernel_rfl) Tryz.func6
    (ChangeSpec.witness_shaped (enc := enc) (C := Tryz.checked) (os := os) (X := fun w _ => laidMetH Tryz.prog laid w) false (World.laidAll Tryz.prog os laid) #[.agg #[.slice none 0 0, .slice none 0 0], .slice none 0 0] 8 (World.laidAll_os _ _ _)
      (World.shaped_of_ZipB (by kernel_rfl) (by kernel_rfl)) (by kernel_rfl) (by kernel_rfl) (by kernel_rfl)
      (by rw [MakeChecks.laidMetH_plain _ _ _ (by kernel_rfl)]; exact laidMet_laidAll _ (by kernel_rfl) (by kernel_rfl))) ?_
  intro W base args ds gs before hval0 hW _ hsz0 _ hsh _
  have hsz : (DataW.weightsEach Tryz.prog (Tryz.f6.params.toList ++ Rows.topArchetypeTreeSpec.plain.varTypes Tryz.prog) (ds ++ gs)).all (· ≤ reachBytes) = true := hsz0
  clear hsz0
  have hval : ∀ (j : Nat) t v, Tryz.f6.params[j]? = some t → args[j]? = some v → Value.okWide Tryz.prog W .any base t v := hval0
  have hW' := hW
  obtain ⟨p, q, hA0, hV, rfl, _, _⟩ := hW
  have hA : DataW.TrodAll enc Tryz.prog W 0 (fun _ => true) true Tryz.f6.params.toList args.toList ds p := hA0
  rw [Tryz.params6] at hA hval hsz
  have hB := hA
  obtain ⟨v0, v1, d0, d1, p0, p1, rfl, rfl, _, h0, h1⟩ := trodAll_two hA
  obtain ⟨rfl, rfl⟩ := trodVars_none hV
  clear hA0 hval0
  simp only [List.append_nil] at hW'
  have hlt : ∀ x ∈ p, x.block < W.heap.size := fun x hx => by simpa using hW'.lt x hx
  obtain ⟨x0, k0⟩ := Tri.open (okWide_struct Tryz.underlying25 (hval 0 25 v0 rfl rfl)) h0 (light_each hsz 0 rfl rfl)
  obtain ⟨x1, k1, b1⟩ := I8s.openT (okWide_slice Tryz.underlying60 (hval 1 60 v1 rfl rfl)) h1 (light_each hsz 1 rfl rfl)
  refine ((TopArchetypeTree_sat v0 v1 x0 x1 W k0 k1 b1 (mxl_of W hsh)).at).mono fun e W' ⟨v, L', he, hp, hv, _⟩ => ?_
  subst he; subst hv
  exact ⟨_, rfl, _, _, _, [], p, [], hW', trodAll_mk1 (shut_bool Tryz.underlying4 true), again_all laidOut hp.below (by kernel_rfl) hB hlt, rfl, hp.below.frame _, fun h => by cases h⟩
theorem f_holds : Rows.TopArchetypeTreeSaid :=
  OpenClaim.holds_of_wide 6 Tryz.f6 rfl rfl rfl rfl rfl rfl rfl ⟨rfl, rfl, rfl, rfl, rfl⟩ rfl rfl rfl rfl rfl (by kernel_rfl) Tryz.func6 (by kernel_rfl)
    (of_decide_eq_true (by kernel_rfl)) (by unfold Func.isWrapper; first | (rw [if_pos (by decide +kernel)]; kernel_rfl) | (rw [if_neg (by decide +kernel)]; exact ⟨rfl, rfl⟩))
    (fun os started H enc _ => f_lifted os started H enc)
theorem card_holds : Rows.TopArchetypeTreeCardSaid :=
  Claim7.holds_tied_plain_at .later [] [.data, .data, .data] true (true, "317c6b92534520785ee6d4cc065237db65a0a94c31f0dbfa4cdd76b719ac93d1") false f_holds (fun _ h => by cases h) (by kernel_rfl) (fun _ h => by cases h) topArchetypeTree_row_tie rfl ⟨rfl, rfl⟩ (by kernel_rfl) rfl
    (fun f fn hf hfn => by
      obtain rfl : f = 6 := Option.some.inj ((show Tryz.prog.funcNamed "apograph/apographtop.TopArchetypeTree" = some 6 by kernel_rfl).symm.trans hf) |>.symm
      obtain rfl : fn = Tryz.f6 := (Option.some.inj (Tryz.func6.symm.trans hfn)).symm
      exact ⟨by kernel_rfl, fun j t ht => by
        rw [Tryz.params6] at ht
        have hm : t ∈ [25, 60] := by simpa using Array.mem_of_getElem? ht
        have hall : ([25, 60].all fun u => !Tryz.prog.wantsStandIn u) = true := by kernel_rfl
        exact (show Tryz.prog.wantsStandIn t = false by simpa using List.all_eq_true.1 hall t hm)⟩)
    (by kernel_rfl)
end HTa39
end Go.Proofs.YtdigdmnnjbndlaaGreatDoor
