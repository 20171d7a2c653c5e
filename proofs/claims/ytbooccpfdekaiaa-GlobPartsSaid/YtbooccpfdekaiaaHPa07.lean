/-
  A string matches two patterns, one behind the other, as a beginning of it matches the first one, and the rest the second one: GlobParts returns true for all strings. No conditions.
-/
import Derived.Test.YtbooccpfdekaiaaMHPa0714
import Derived.ChangeMaps5
namespace Go.Proofs.Ytbooccpfdekaiaa
open Go.ChangeShapes Go.WideShapes Go.ChangeAt Go.RowKit Go.Deep
namespace HPa07
theorem own : ownKnob Try.prog.godebug = none := by kernel_rfl
theorem laidOut : laidOutB Try.prog = true := by kernel_rfl
set_option maxRecDepth 100000 in
theorem f_lifted (os : Os) (started : os.Started) (H : Type) (enc : TypeId × Value → H) :
    ReturnsInHanded {} Try.checked os 3 .any (Rows.globPartsSpec.pre6 enc Try.prog Try.f3 Rows.globPartsRow.domain false) (Rows.globPartsSpec.post enc Try.prog Try.f3 false true false false) := by
  refine returnsInHanded_of_change_sized (C := Try.checked) own started (by kernel_rfl) Try.func3
    (ChangeSpec.witness6 (enc := enc) (C := Try.checked) false ⟨#[], #[.string ByteArray.empty, .string ByteArray.empty, .string ByteArray.empty], []⟩ 8 (by kernel_rfl) (by kernel_rfl) (by kernel_rfl) (by kernel_rfl)) ?_
  intro W base args ds gs before hval0 hW _ hsz0 _
  have hsz : (DataW.weightsEach Try.prog (Try.f3.params.toList ++ Rows.globPartsSpec.plain.varTypes Try.prog) (ds ++ gs)).all (· ≤ reachBytes) = true := hsz0
  clear hsz0
  have hval : ∀ (j : Nat) t v, Try.f3.params[j]? = some t → args[j]? = some v → Value.okWide Try.prog W .any base t v := hval0
  have hW' := hW
  obtain ⟨p, q, hA0, hV, rfl, _, _⟩ := hW
  have hA : DataW.TrodAll enc Try.prog W 0 (fun _ => true) true Try.f3.params.toList args.toList ds p := hA0
  rw [Try.params3] at hA hval hsz
  have hB := hA
  obtain ⟨v0, v1, v2, d0, d1, d2, p0, p1, p2, rfl, rfl, _, h0, h1, h2⟩ := trodAll_three hA
  obtain ⟨rfl, rfl⟩ := trodVars_none hV
  clear hA0 hval0
  simp only [List.append_nil] at hW'
  have hlt : ∀ x ∈ p, x.block < W.heap.size := fun x hx => by simpa using hW'.lt x hx
  obtain ⟨x0, e0, k0⟩ := Str.openT (Go.ChangeMaps.open_string Try.underlying9 (hval 0 9 v0 rfl rfl) h0) (light_each hsz 0 rfl rfl)
  subst e0
  obtain ⟨x1, e1, k1⟩ := Str.openT (Go.ChangeMaps.open_string Try.underlying9 (hval 1 9 v1 rfl rfl) h1) (light_each hsz 1 rfl rfl)
  subst e1
  obtain ⟨x2, e2, k2⟩ := Str.openT (Go.ChangeMaps.open_string Try.underlying9 (hval 2 9 v2 rfl rfl) h2) (light_each hsz 2 rfl rfl)
  subst e2
  refine ((GlobParts_at  x0 x1 x2 W k0 k1 k2).at).mono fun e W' ⟨v, L', he, hp, hv, _⟩ => ?_
  subst he; subst hv
  exact ⟨_, rfl, _, _, _, [], p, [], hW', trodAll_mk1 (shut_bool Try.underlying4 true), again_all laidOut hp.below (by kernel_rfl) hB hlt, rfl, hp.below.frame _, fun h => by cases h⟩
theorem f_holds : Rows.GlobPartsSaid :=
  OpenClaim.holds_of_wide 3 Try.f3 rfl rfl rfl rfl rfl rfl rfl ⟨rfl, rfl, rfl, rfl, rfl⟩ rfl rfl rfl rfl rfl (by kernel_rfl) Try.func3 (by kernel_rfl)
    (of_decide_eq_true (by kernel_rfl)) (by unfold Func.isWrapper; first | (rw [if_pos (by decide +kernel)]; kernel_rfl) | (rw [if_neg (by decide +kernel)]; exact ⟨rfl, rfl⟩))
    (fun os started H enc _ => f_lifted os started H enc)
end HPa07
end Go.Proofs.Ytbooccpfdekaiaa
