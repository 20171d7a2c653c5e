/-
  Match and Filter return the results of the reference implementation: GlobMatches returns true for all strings and lists of strings. No conditions.
-/
import Derived.Test.YtbooccpfdekaiaaMHMa0720
import Derived.ChangeMaps5
namespace Go.Proofs.Ytbooccpfdekaiaa
open Go.ChangeShapes Go.WideShapes Go.ChangeAt Go.RowKit Go.Deep
namespace HMa07
theorem own : ownKnob Try.prog.godebug = none := by kernel_rfl
theorem laidOut : laidOutB Try.prog = true := by kernel_rfl
set_option maxRecDepth 100000 in
theorem f_lifted (os : Os) (started : os.Started) (H : Type) (enc : TypeId × Value → H) :
    ReturnsInHanded {} Try.checked os 9 .any (Rows.globMatchesSpec.pre6 enc Try.prog Try.f9 Rows.globMatchesRow.domain false) (Rows.globMatchesSpec.post enc Try.prog Try.f9 false true false false) := by
  refine returnsInHanded_of_change_sized (C := Try.checked) own started (by kernel_rfl) Try.func9
    (ChangeSpec.witness6 (enc := enc) (C := Try.checked) false ⟨#[], #[.string ByteArray.empty, .string ByteArray.empty, .slice none 0 0], []⟩ 8 (by kernel_rfl) (by kernel_rfl) (by kernel_rfl) (by kernel_rfl)) ?_
  intro W base args ds gs before hval0 hW _ hsz0 _
  have hsz : (DataW.weightsEach Try.prog (Try.f9.params.toList ++ Rows.globMatchesSpec.plain.varTypes Try.prog) (ds ++ gs)).all (· ≤ reachBytes) = true := hsz0
  clear hsz0
  have hval : ∀ (j : Nat) t v, Try.f9.params[j]? = some t → args[j]? = some v → Value.okWide Try.prog W .any base t v := hval0
  have hW' := hW
  obtain ⟨p, q, hA0, hV, rfl, _, _⟩ := hW
  have hA : DataW.TrodAll enc Try.prog W 0 (fun _ => true) true Try.f9.params.toList args.toList ds p := hA0
  rw [Try.params9] at hA hval hsz
  have hB := hA
  obtain ⟨v0, v1, v2, d0, d1, d2, p0, p1, p2, rfl, rfl, _, h0, h1, h2⟩ := trodAll_three hA
  obtain ⟨rfl, rfl⟩ := trodVars_none hV
  clear hA0 hval0
  simp only [List.append_nil] at hW'
  have hlt : ∀ x ∈ p, x.block < W.heap.size := fun x hx => by simpa using hW'.lt x hx
  obtain ⟨x0, e0, k0⟩ := Str.openT (Go.ChangeMaps.open_string Try.underlying9 (hval 0 9 v0 rfl rfl) h0) (light_each hsz 0 rfl rfl)
  subst e0
  obtain ⟨x1, e1, k1⟩ := Str.openT (Go.ChangeMaps.open_string Try.underlying9 (hval 1 9 v1 rfl rfl) h1) (light_each hsz 1 rfl rfl)
  subst e1
  obtain ⟨x2, k2⟩ := Strs.openT (okWide_slice Try.underlying37 (hval 2 37 v2 rfl rfl)) h2 (light_each hsz 2 rfl rfl)
  refine ((GlobMatches_at v2 x0 x1 x2 W k0 k1 k2).at).mono fun e W' ⟨v, L', he, hp, hv, _⟩ => ?_
  subst he; subst hv
  exact ⟨_, rfl, _, _, _, [], p, [], hW', trodAll_mk1 (shut_bool Try.underlying4 true), again_all laidOut hp.below (by kernel_rfl) hB hlt, rfl, hp.below.frame _, fun h => by cases h⟩
theorem f_holds : Rows.GlobMatchesSaid :=
  OpenClaim.holds_of_wide 9 Try.f9 rfl rfl rfl rfl rfl rfl rfl ⟨rfl, rfl, rfl, rfl, rfl⟩ rfl rfl rfl rfl rfl (by kernel_rfl) Try.func9 (by kernel_rfl)
    (of_decide_eq_true (by kernel_rfl)) (by unfold Func.isWrapper; first | (rw [if_pos (by decide +kernel)]; kernel_rfl) | (rw [if_neg (by decide +kernel)]; exact ⟨rfl, rfl⟩))
    (fun os started H enc _ => f_lifted os started H enc)
end HMa07
end Go.Proofs.Ytbooccpfdekaiaa
