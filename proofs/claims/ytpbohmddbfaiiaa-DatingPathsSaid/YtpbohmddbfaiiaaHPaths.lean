/-
  Consistent, Verify and Possible return the results of the reference implementation: for every stemma, all dates, every path and all nodes DatingPaths returns true. No conditions.
-/
import Derived.Test.YtpbohmddbfaiiaaOpen
import Derived.Test.YtpbohmddbfaiiaaLawg37
namespace Go.Proofs.Ytpbohmddbfaiiaa
open Go.ChangeShapes Go.WideShapes Go.ChangeAt Go.RowKit Go.Deep

namespace HPaths
theorem own : ownKnob Try.prog.godebug = none := by kernel_rfl
theorem laidOut : laidOutB Try.prog = true := by kernel_rfl

set_option maxRecDepth 100000 in
theorem f_lifted (os : Os) (started : os.Started) (H : Type) (enc : TypeId × Value → H) :
    ReturnsInHanded {} Try.checked os 10 .any (Rows.datingPathsSpec.pre6 enc Try.prog Try.f10 Rows.datingPathsRow.domain false) (Rows.datingPathsSpec.post enc Try.prog Try.f10 false true false false) := by
  refine returnsInHanded_of_change_sized (C := Try.checked) own started (by kernel_rfl) Try.func10
    (ChangeSpec.witness6 (enc := enc) (C := Try.checked) false ⟨#[], #[.agg #[.slice none 0 0, .slice none 0 0, .slice none 0 0], .slice none 0 0, .slice none 0 0, .int .i64 0, .int .i64 0], []⟩ 8 (by kernel_rfl) (by kernel_rfl) (by kernel_rfl) (by kernel_rfl)) ?_
  intro W base args ds gs before hval0 hW _ hsz0 _
  have hsz : (DataW.weightsEach Try.prog (Try.f10.params.toList ++ Rows.datingPathsSpec.plain.varTypes Try.prog) (ds ++ gs)).all (· ≤ reachBytes) = true := hsz0
  clear hsz0
  have hval : ∀ (j : Nat) t v, Try.f10.params[j]? = some t → args[j]? = some v → Value.okWide Try.prog W .any base t v := hval0
  have hW' := hW
  obtain ⟨p, q, hA0, hV, rfl, _, _⟩ := hW
  have hA : DataW.TrodAll enc Try.prog W 0 (fun _ => true) true Try.f10.params.toList args.toList ds p := hA0
  rw [Try.params10] at hA hval hsz
  have hB := hA
  obtain ⟨v0, v1, v2, v3, v4, d0, d1, d2, d3, d4, p0, p1, p2, p3, p4, rfl, rfl, _, h0, h1, h2, h3, h4⟩ := trodAll_five hA
  obtain ⟨rfl, rfl⟩ := trodVars_none hV
  clear hA0 hval0
  simp only [List.append_nil] at hW'
  have hlt : ∀ x ∈ p, x.block < W.heap.size := fun x hx => by simpa using hW'.lt x hx
  obtain ⟨x0, k0⟩ := Stm.open (okWide_struct Try.underlying26 (hval 0 26 v0 rfl rfl)) h0 (light_each hsz 0 rfl rfl)
  obtain ⟨x1, k1⟩ := Dats.open (okWide_slice Try.underlying27 (hval 1 27 v1 rfl rfl)) h1 (light_each hsz 1 rfl rfl)
  obtain ⟨x2, k2, _⟩ := Ints.openT (okWide_slice Try.underlying28 (hval 2 28 v2 rfl rfl)) h2 (light_each hsz 2 rfl rfl)
  obtain ⟨x3, e3, k3⟩ := int.openT (open_int Try.underlying3 (hval 3 3 v3 rfl rfl) h3)
  subst e3
  obtain ⟨x4, e4, k4⟩ := int.openT (open_int Try.underlying3 (hval 4 3 v4 rfl rfl) h4)
  subst e4
  refine ((DatingPaths_sat v0 v1 v2 x0 x1 x2 x3 x4 W k0 k1 k2).at).mono fun e W' ⟨v, L', he, hp, hv, _⟩ => ?_
  subst he; subst hv
  exact ⟨_, rfl, _, _, _, [], p, [], hW', trodAll_mk1 (shut_bool Try.underlying4 true), again_all laidOut hp.below (by kernel_rfl) hB hlt, rfl, hp.below.frame _, fun h => by cases h⟩

theorem f_holds : Rows.DatingPathsSaid :=
  OpenClaim.holds_of_wide 10 Try.f10 rfl rfl rfl rfl rfl rfl rfl ⟨rfl, rfl, rfl, rfl, rfl⟩ rfl rfl rfl rfl rfl (by kernel_rfl) Try.func10 (by kernel_rfl)
    (of_decide_eq_true (by kernel_rfl)) (by unfold Func.isWrapper; first | (rw [if_pos (by decide +kernel)]; kernel_rfl) | (rw [if_neg (by decide +kernel)]; exact ⟨rfl, rfl⟩))
    (fun os started H enc _ => f_lifted os started H enc)
#print axioms f_holds
end HPaths
end Go.Proofs.Ytpbohmddbfaiiaa
