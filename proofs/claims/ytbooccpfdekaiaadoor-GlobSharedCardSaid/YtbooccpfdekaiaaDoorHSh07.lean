/-
  The common string matches both patterns, and no string before it does: GlobShared returns true for all strings and numbers, on every run; the tables of Go's library that the row lists are as the program's text lays them.
-/
import Derived.Test.YtbooccpfdekaiaaDoorMHSh0715
import Derived.Test.YtbooccpfdekaiaaDoorTie
import Derived.Test.YtbooccpfdekaiaaDoorCards
import Derived.SevenTiedAt
namespace Go.Proofs.YtbooccpfdekaiaaDoor
open Go.ChangeShapes Go.WideShapes Go.ChangeAt Go.RowKit Go.Deep
namespace HSh07
def laid : List (String × DataW Unit) := Rows.globSharedRow.laid
theorem own : ownKnob Tryd.prog.godebug = none := by kernel_rfl
theorem laidOut : laidOutB Tryd.prog = true := by kernel_rfl
set_option maxRecDepth 100000 in
theorem f_lifted (os : Os) (started : os.Started) (H : Type) (enc : TypeId × Value → H) :
    ReturnsInHanded {} Tryd.checked os 3 .any (fun w args => (Rows.globSharedSpec.pre enc Tryd.prog Tryd.f3 [] false w args ∧ laidMetH Tryd.prog laid w) ∧ sizedMet enc Tryd.prog Tryd.f3 (OpenSpec.ofChange Rows.globSharedSpec) false w args) (Rows.globSharedSpec.post enc Tryd.prog Tryd.f3 false true false false) := by
  refine changeAndS (C := Tryd.checked) (X := fun w _ => laidMetH Tryd.prog laid w) (fun _ _ _ hh h => h.of_heap hh) own started (by kernel_rfl) Tryd.func3
    (ChangeSpec.witness_shaped (enc := enc) (C := Tryd.checked) (os := os) (X := fun w _ => laidMetH Tryd.prog laid w) false (World.laidAll Tryd.prog os laid) #[.string ByteArray.empty, .string ByteArray.empty, .string ByteArray.empty, .int .u8 0] 8 (World.laidAll_os _ _ _)
      (World.shaped_of_ZipB (by kernel_rfl) (by kernel_rfl)) (by kernel_rfl) (by kernel_rfl) (by kernel_rfl)
      (by rw [MakeChecks.laidMetH_plain _ _ _ (by kernel_rfl)]; exact laidMet_laidAll _ (by kernel_rfl) (by kernel_rfl))) ?_
  intro W base args ds gs before hval0 hW _ hsz0 _ hsh _
  have hsz : (DataW.weightsEach Tryd.prog (Tryd.f3.params.toList ++ Rows.globSharedSpec.plain.varTypes Tryd.prog) (ds ++ gs)).all (· ≤ reachBytes) = true := hsz0
  clear hsz0
  have hval : ∀ (j : Nat) t v, Tryd.f3.params[j]? = some t → args[j]? = some v → Value.okWide Tryd.prog W .any base t v := hval0
  have hW' := hW
  obtain ⟨p, q, hA0, hV, rfl, _, _⟩ := hW
  have hA : DataW.TrodAll enc Tryd.prog W 0 (fun _ => true) true Tryd.f3.params.toList args.toList ds p := hA0
  rw [Tryd.params3] at hA hval hsz
  have hB := hA
  obtain ⟨v0, v1, v2, v3, d0, d1, d2, d3, p0, p1, p2, p3, rfl, rfl, _, h0, h1, h2, h3⟩ := trodAll_four hA
  obtain ⟨rfl, rfl⟩ := trodVars_none hV
  clear hA0 hval0
  simp only [List.append_nil] at hW'
  have hlt : ∀ x ∈ p, x.block < W.heap.size := fun x hx => by simpa using hW'.lt x hx
  obtain ⟨x0, e0, k0⟩ := Str.openT (Go.ChangeMaps.open_string Tryd.underlying9 (hval 0 9 v0 rfl rfl) h0) (light_each hsz 0 rfl rfl)
  subst e0
  obtain ⟨x1, e1, k1⟩ := Str.openT (Go.ChangeMaps.open_string Tryd.underlying9 (hval 1 9 v1 rfl rfl) h1) (light_each hsz 1 rfl rfl)
  subst e1
  obtain ⟨x2, e2, k2⟩ := Str.openT (Go.ChangeMaps.open_string Tryd.underlying9 (hval 2 9 v2 rfl rfl) h2) (light_each hsz 2 rfl rfl)
  subst e2
  obtain ⟨y3, e3, a3, b3⟩ := u8.openT (open_int Tryd.underlying5 (hval 3 5 v3 rfl rfl) h3)
  obtain ⟨x3, rfl⟩ := Int.eq_ofNat_of_zero_le a3
  subst e3
  have k3 : x3 ≤ 255 := by omega
  refine ((GlobShared_at  x0 x1 x2 x3 W k0 k1 k2 k3 (mxl_of W hsh)).at).mono fun e W' ⟨v, L', he, hp, hv, _⟩ => ?_
  subst he; subst hv
  exact ⟨_, rfl, _, _, _, [], p, [], hW', trodAll_mk1 (shut_bool Tryd.underlying4 true), again_all laidOut hp.below (by kernel_rfl) hB hlt, rfl, hp.below.frame _, fun h => by cases h⟩
theorem f_holds : Rows.GlobSharedSaid :=
  OpenClaim.holds_of_wide 3 Tryd.f3 rfl rfl rfl rfl rfl rfl rfl ⟨rfl, rfl, rfl, rfl, rfl⟩ rfl rfl rfl rfl rfl (by kernel_rfl) Tryd.func3 (by kernel_rfl)
    (of_decide_eq_true (by kernel_rfl)) (by unfold Func.isWrapper; first | (rw [if_pos (by decide +kernel)]; kernel_rfl) | (rw [if_neg (by decide +kernel)]; exact ⟨rfl, rfl⟩))
    (fun os started H enc _ => f_lifted os started H enc)
theorem card_holds : Rows.GlobSharedCardSaid :=
  Claim7.holds_tied_plain_at .later [] [.data, .pinned] true (true, "508c12b53ee35afefc2792bc850ebce5f12c3de4d814f86515f67d92f1130207") false f_holds (fun _ h => by cases h) (by kernel_rfl) (fun _ h => by cases h) globShared_row_tie rfl ⟨rfl, rfl⟩ (by kernel_rfl) rfl
    (fun f fn hf hfn => by
      obtain rfl : f = 3 := Option.some.inj ((show Tryd.prog.funcNamed "apograph/apographlaw07.GlobShared" = some 3 by kernel_rfl).symm.trans hf) |>.symm
      obtain rfl : fn = Tryd.f3 := (Option.some.inj (Tryd.func3.symm.trans hfn)).symm
      exact ⟨by kernel_rfl, fun j t ht => by
        rw [Tryd.params3] at ht
        have hm : t ∈ [9, 9, 9, 5] := by simpa using Array.mem_of_getElem? ht
        have hall : ([9, 9, 9, 5].all fun u => !Tryd.prog.wantsStandIn u) = true := by kernel_rfl
        exact (show Tryd.prog.wantsStandIn t = false by simpa using List.all_eq_true.1 hall t hm)⟩)
    (by kernel_rfl)
end HSh07
end Go.Proofs.YtbooccpfdekaiaaDoor
