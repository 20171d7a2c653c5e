/-
  Part 34 of the proof: OpenE, OpenC, OpenU, OpenL, Tl27, Crd. No statement of the seat is proved here.
-/
import Derived.Test.YthnlnffmmioapaaGreatDoorMHCl2733
import Derived.Lib.SmallJoins
import Derived.Lib.LaidTab
import Derived.LaidSub
import Derived.LaidMore
import Derived.LaidHandle
import Derived.MakeChecks
import Derived.OpenShut
import Derived.Test.YthnlnffmmioapaaGreatDoorRows
import Derived.HandedShaped
import Derived.Lay
namespace Go.Proofs.YthnlnffmmioapaaGreatDoor
open Go.RowKit Go.Deep Go.WideShapes Go.ChangeShapes
theorem Exps.mk {w : World} {g : Nat → Nat → Value} : ∀ {xs : List Cnd} {i : Nat}, (∀ j, (h : j < xs.length) → Exp w xs[j] (.agg #[g (i + j) 0, g (i + j) 1, g (i + j) 2, g (i + j) 3])) → Exps w xs g i
  | [], _, _ => by unfold Exps; trivial
  | x :: xs, i, h => by
    unfold Exps
    refine ⟨h 0 (by simp), Exps.mk fun j hj => ?_⟩
    have := h (j + 1) (by simpa using hj)
    rw [show i + (j + 1) = i + 1 + j by omega] at this
    exact this
section
variable {H : Type} {enc : TypeId × Value → H} {W : World}
theorem open_sl2s {t e : TypeId} {fuel sz : Nat} {v : Value} {x : DataW H × List MemPlace} (ht : Tryz.prog.underlying t = some (.slice e)) (hc : Tryz.prog.cellsOf e = sz) (hsz : 0 < sz) (hb : 0 < Tryz.prog.bytesOf e)
    (h : DataW.trod enc Tryz.prog W 0 (fun _ => true) true fuel t [v] = some x) (hw : Light t x.1) :
    ∃ (n m : Nat) (C : Nat → List Value) (D : Nat → DataW H) (Q : Nat → List MemPlace), Sl2 W v sz n (fun j c => (C j).getD c undef) ∧ (∀ a k c, v = .slice a k c → k ≤ c) ∧
      ∀ i, i < n → (C i).length = sz ∧ DataW.trod enc Tryz.prog W 0 (fun _ => true) true m e (C i) = some (D i, Q i) ∧ Light e (D i) ∧ SizeOf.sizeOf (D i) < SizeOf.sizeOf x.1 := by
  rcases open_slice ht h with ⟨h1, h2⟩ | ⟨a, len, cap, m, n, D, Q, h1, _, hl, hm, hmm, rfl, hx⟩
  · simp only [List.cons.injEq, and_true] at h1
    subst h1; subst h2
    refine ⟨0, 0, fun _ => [], fun _ => .nil, fun _ => [], ⟨by omega, none, 0, rfl, .inl rfl⟩, ?_, fun i hi => absurd hi (by omega)⟩
    intro a k c e
    cases e; exact Nat.le_refl _
  · simp only [List.cons.injEq, and_true] at h1
    subst h1
    simp only [if_true] at hmm
    subst hmm
    obtain ⟨hw1, hw2⟩ := light_slice ht hw
    rw [hc] at hx
    have hx' : ∀ i, i < len → ∃ cs', W.cells? 0 (a.add (i * sz)) sz = some cs' ∧ DataW.trod enc Tryz.prog W 0 (fun _ => true) true n e cs' = some (D i, Q i) := fun i hi => hx i (by omega)
    obtain ⟨C, hC⟩ := choose_lt (α := List Value) hx'
    have hlen : len ≤ 140737488355328 := by
      have : len * 1 ≤ len * Tryz.prog.bytesOf e := Nat.mul_le_mul_left _ hb
      simp only [List.length_map, List.length_range] at hw1
      have h3 : len * Tryz.prog.bytesOf e ≤ (len + (m - len)) * Tryz.prog.bytesOf e := Nat.mul_le_mul_right _ (by omega)
      omega
    refine ⟨len, n, C, D, Q, ⟨hlen, some a, m, rfl, ?_⟩, ?_, fun i hi => ?_⟩
    · by_cases h0 : len = 0
      · exact .inl h0
      right
      obtain ⟨b, off, spot⟩ := a
      have hs : spot = none := by
        obtain ⟨_, h4, h5⟩ := World.cells?_some (hC 0 (by omega)).1
        have h6 := h5 0 hsz
        obtain ⟨u, hu⟩ : ∃ u, (C 0)[0]? = some u := ⟨_, List.getElem?_eq_getElem (by omega)⟩
        rw [hu] at h6
        simpa [Addr.add] using World.cell?_spot h6
      subst hs
      refine ⟨b, off, rfl, fun j hj c hcs => ?_⟩
      obtain ⟨_, h4, h5⟩ := World.cells?_some (hC j hj).1
      have h6 := h5 c hcs
      rw [add_plain, add_plain] at h6
      rw [h6]
      simp [h4, hcs]
    · intro a' k c e
      cases e; exact hl
    · obtain ⟨_, h4, h5⟩ := World.cells?_some (hC i hi).1
      have hin : D i ∈ (List.range len).map D := List.mem_map.2 ⟨i, List.mem_range.2 hi, rfl⟩
      refine ⟨h4, (hC i hi).2, hw2 _ hin, ?_⟩
      have h7 := List.sizeOf_lt_of_mem hin
      show SizeOf.sizeOf (D i) < SizeOf.sizeOf (DataW.slice _ _)
      rw [DataW.slice.sizeOf_spec]
      omega
theorem Exp.open_n : ∀ (k : Nat) {fuel : Nat} {a b c d : Value} {x : DataW H × List MemPlace}, SizeOf.sizeOf x.1 ≤ k → DataW.trod enc Tryz.prog W 0 (fun _ => true) true fuel 24 [a, b, c, d] = some x → Light 24 x.1 → ∃ e, Exp W e (.agg #[a, b, c, d])
  | 0, _, _, _, _, _, x, hk, _, _ => by
    have : 0 < SizeOf.sizeOf x.1 := by cases x.1 <;> simp <;> omega
    omega
  | k + 1, fuel, a, b, c, d, x, hk, h, hw => by
    obtain ⟨y0, y1, y2, y3, n, e, _, g0, g1, g2, g3⟩ := Go.Joins.trod_struct4 Tryz.underlying24 h
    have c1 : Tryz.prog.cellsOf 3 = 1 := by kernel_rfl
    have c2 : Tryz.prog.cellsOf 9 = 1 := by kernel_rfl
    have c3 : Tryz.prog.cellsOf 22 = 1 := by kernel_rfl
    simp only [c1, c2, c3, List.drop_zero, List.drop_succ_cons, List.take_succ_cons, List.take_zero] at g0 g1 g2 g3
    subst e
    obtain ⟨z0, e0, _, _⟩ := DataW.trod_int Tryz.underlying3 g0
    obtain ⟨z1, e1, _, _⟩ := DataW.trod_int Tryz.underlying3 g1
    obtain ⟨s, e2, h6, _⟩ := DataW.trod_string Tryz.underlying9 g2
    have l2 := light_agg Tryz.underlying24 hw 2 rfl rfl
    have l3 := light_agg Tryz.underlying24 hw 3 rfl rfl
    subst h6
    simp only [List.cons.injEq, and_true] at e0 e1 e2
    subst e0; subst e1; subst e2
    obtain ⟨N, m, C, D, Q, h1, hr, h2⟩ := open_sl2s Tryz.underlying22 (sz := 4) (by kernel_rfl) (by decide) (of_decide_eq_true (by kernel_rfl)) g3 l3
    have hsz : SizeOf.sizeOf y3.1 ≤ k := by
      have : SizeOf.sizeOf (DataW.agg [y0.1, y1.1, (DataW.lit (.string s.data.toList) : DataW H), y3.1]) ≤ k + 1 := hk
      rw [DataW.agg.sizeOf_spec] at this
      simp only [List.cons.sizeOf_spec, List.nil.sizeOf_spec] at this
      omega
    obtain ⟨Z, hZ⟩ := choose_lt (α := Cnd) (p := fun i z => Exp W z (.agg #[(C i).getD 0 undef, (C i).getD 1 undef, (C i).getD 2 undef, (C i).getD 3 undef])) (fun i hi => by
      obtain ⟨h3, h4, h5, h7⟩ := h2 i hi
      generalize C i = ci at h3 h4 ⊢
      match ci, h3, h4 with
      | [a', b', c', d'], _, h4 =>
        exact Exp.open_n k (by show SizeOf.sizeOf (D i) ≤ k;omega) h4 h5)
    refine ⟨.mk z0 z1 s ((List.range N).map Z), ?_⟩
    unfold Exp
    refine ⟨d, _, rfl, by simpa using light_string l2, by rw [List.length_map, List.length_range]; exact h1, Exps.mk fun j hj => ?_⟩
    have hj' : j < N := by simpa using hj
    rw [Nat.zero_add]
    simpa using hZ j hj'
theorem Exp.open {v : Value} {d : DataW H} {ps : List MemPlace} (ho : ∃ cs, v = .agg cs ∧ cs.size = Tryz.prog.cellsOf 24) (h : DataW.Trod enc Tryz.prog W 0 (fun _ => true) true 24 v d ps) (hw : Light 24 d) :
    ∃ x, Exp W x v := by
  obtain ⟨⟨cl⟩, rfl, hsz⟩ := ho
  have hC : Tryz.prog.cellsOf 24 = 4 := by kernel_rfl
  rw [hC] at hsz
  obtain ⟨fuel, h⟩ := h
  match cl, hsz with
  | [a, b, c, e], _ => exact Exp.open_n _ (Nat.le_refl _) h hw
theorem Rdn.open_n {fuel : Nat} {a b : Value} {x : DataW H × List MemPlace} (h : DataW.trod enc Tryz.prog W 0 (fun _ => true) true fuel 33 [a, b] = some x) (hw : Light 33 x.1) : ∃ r, RdnV W r (.agg #[a, b]) := by
  obtain ⟨y0, y1, n, e, _, h0, h1⟩ := trod_struct2 Tryz.underlying33 h
  subst e
  have c1 : Tryz.prog.cellsOf 31 = 1 := by kernel_rfl
  have c2 : Tryz.prog.cellsOf 25 = 1 := by kernel_rfl
  simp only [c1, c2, List.drop_zero, List.drop_succ_cons, List.take_succ_cons, List.take_zero] at h0 h1
  obtain ⟨xs, hx⟩ := Strs.open h0 (light_agg Tryz.underlying33 hw 0 rfl rfl)
  obtain ⟨ys, hy, _⟩ := Ints.open h1 (light_agg Tryz.underlying33 hw 1 rfl rfl)
  exact ⟨⟨xs, ys⟩, a, b, rfl, hx, hy⟩
theorem Rdns.open {fuel : Nat} {v : Value} {x : DataW H × List MemPlace} (h : DataW.trod enc Tryz.prog W 0 (fun _ => true) true fuel 26 [v] = some x) (hw : Light 26 x.1) : ∃ l, Rdns W v l := by
  obtain ⟨N, m, C, D, Q, h1, hr, h2⟩ := open_sl2 Tryz.underlying26 (sz := 2) (by kernel_rfl) (by decide) (of_decide_eq_true (by kernel_rfl)) h hw
  obtain ⟨Z, hZ⟩ := choose_lt (α := Rdn) (p := fun i z => RdnV W z (.agg #[(C i).getD 0 undef, (C i).getD 1 undef])) (fun i hi => by
    obtain ⟨h3, h4, h5⟩ := h2 i hi
    generalize C i = ci at h3 h4 ⊢
    match ci, h3, h4 with
    | [a', b'], _, h4 => exact Rdn.open_n h4 h5)
  refine ⟨(List.range N).map Z, _, by rw [List.length_map, List.length_range]; exact h1, fun j hj => ?_⟩
  have hj' : j < N := by simpa using hj
  simpa using hZ j hj'
theorem Ruls.open {fuel : Nat} {v : Value} {x : DataW H × List MemPlace} (h : DataW.trod enc Tryz.prog W 0 (fun _ => true) true fuel 39 [v] = some x) (hw : Light 39 x.1) : ∃ l, Ruls W v l := by
  obtain ⟨N, m, C, D, Q, h1, hr, h2⟩ := open_sl2 Tryz.underlying39 (sz := 5) (by kernel_rfl) (by decide) (of_decide_eq_true (by kernel_rfl)) h hw
  obtain ⟨Z, hZ⟩ := choose_lt (α := Rul) (p := fun i z => RulV W z (.agg #[(C i).getD 0 undef, (C i).getD 1 undef, (C i).getD 2 undef, (C i).getD 3 undef, (C i).getD 4 undef])) (fun i hi => by
    obtain ⟨h3, h4, h5⟩ := h2 i hi
    generalize C i = ci at h3 h4 ⊢
    match ci, h3, h4 with
    | [a', b', c', d', e'], _, h4 =>
      obtain ⟨y0, y1, n, e, _, g0, g1⟩ := trod_struct2 Tryz.underlying59 h4
      have c2 : Tryz.prog.cellsOf 9 = 1 := by kernel_rfl
      have c4 : Tryz.prog.cellsOf 24 = 4 := by kernel_rfl
      simp only [c2, c4, List.drop_zero, List.drop_succ_cons, List.take_succ_cons, List.take_zero] at g0 g1
      obtain ⟨s, e2, h6, _⟩ := DataW.trod_string Tryz.underlying9 g0
      simp only [Prod.mk.injEq] at e
      rw [e.1] at h5
      have l0 := light_agg Tryz.underlying59 h5 0 rfl rfl
      have l1 := light_agg Tryz.underlying59 h5 1 rfl rfl
      subst h6
      simp only [List.cons.injEq, and_true] at e2
      subst e2
      obtain ⟨q, hq⟩ := Exp.open_n _ (Nat.le_refl _) g1 l1
      exact ⟨⟨s, q⟩, b', c', d', e', rfl, hq, by simpa using light_string l0⟩)
  refine ⟨(List.range N).map Z, _, by rw [List.length_map, List.length_range]; exact h1, fun j hj => ?_, hr⟩
  have hj' : j < N := by simpa using hj
  simpa using hZ j hj'
theorem Unis.open {fuel : Nat} {v : Value} {x : DataW H × List MemPlace} (h : DataW.trod enc Tryz.prog W 0 (fun _ => true) true fuel 41 [v] = some x) (hw : Light 41 x.1) : ∃ l, Unis W v l := by
  obtain ⟨N, m, C, D, Q, h1, hr, h2⟩ := open_sl2 Tryz.underlying41 (sz := 3) (by kernel_rfl) (by decide) (of_decide_eq_true (by kernel_rfl)) h hw
  obtain ⟨Z, hZ⟩ := choose_lt (α := List Rdn) (p := fun i z => UniV W z (.agg #[(C i).getD 0 undef, (C i).getD 1 undef, (C i).getD 2 undef])) (fun i hi => by
    obtain ⟨h3, h4, h5⟩ := h2 i hi
    generalize C i = ci at h3 h4 ⊢
    match ci, h3, h4 with
    | [a', b', c'], _, h4 =>
      obtain ⟨y0, y1, y2, n, e, _, g0, g1, g2⟩ := trod_struct3 Tryz.underlying46 h4
      have c1 : Tryz.prog.cellsOf 3 = 1 := by kernel_rfl
      have c2 : Tryz.prog.cellsOf 26 = 1 := by kernel_rfl
      simp only [c1, c2, List.drop_zero, List.drop_succ_cons, List.take_succ_cons, List.take_zero] at g0 g1 g2
      simp only [Prod.mk.injEq] at e
      rw [e.1] at h5
      obtain ⟨l, hl⟩ := Rdns.open g2 (light_agg Tryz.underlying46 h5 2 rfl rfl)
      exact ⟨l, a', b', c', rfl, hl⟩)
  refine ⟨(List.range N).map Z, _, by rw [List.length_map, List.length_range]; exact h1, fun j hj => ?_⟩
  have hj' : j < N := by simpa using hj
  simpa using hZ j hj'
theorem Wtb.open {fuel : Nat} {v : Value} {x : DataW H × List MemPlace} (h : DataW.trod enc Tryz.prog W 0 (fun _ => true) true fuel 40 [v] = some x) (hw : Light 40 x.1) : ∃ l, Wtb W v l := by
  obtain ⟨n, m, V, D, Q, h1, h2⟩ := open_sl Tryz.underlying40 (by kernel_rfl) (of_decide_eq_true (by kernel_rfl)) h hw
  obtain ⟨Z, hZ⟩ := choose_lt (α := List ByteArray) (p := fun i z => Strs W (V i) z) (fun i hi => Strs.open (h2 i hi).1 (h2 i hi).2)
  refine ⟨(List.range n).map Z, V, by rw [List.length_map, List.length_range]; exact h1, fun j hj => ?_⟩
  have hj' : j < n := by simpa using hj
  simpa using hZ j hj'
theorem RdnV.openT {v : Value} {d : DataW H} {ps : List MemPlace} (ho : ∃ cs, v = .agg cs ∧ cs.size = Tryz.prog.cellsOf 33) (h : DataW.Trod enc Tryz.prog W 0 (fun _ => true) true 33 v d ps) (hw : Light 33 d) : ∃ r, RdnV W r v := by
  obtain ⟨⟨cl⟩, rfl, hsz⟩ := ho
  have hC : Tryz.prog.cellsOf 33 = 2 := by kernel_rfl
  rw [hC] at hsz
  obtain ⟨fuel, h⟩ := h
  match cl, hsz with
  | [a, b], _ => exact Rdn.open_n h hw
theorem Rdns.openT {v : Value} {d : DataW H} {ps : List MemPlace} (ho : ∃ a n c, v = .slice a n c) (h : DataW.Trod enc Tryz.prog W 0 (fun _ => true) true 26 v d ps) (hw : Light 26 d) : ∃ l, Rdns W v l := by
  obtain ⟨fuel, h⟩ := h
  rw [one_cell ho] at h
  exact Rdns.open h hw
theorem Ruls.openT {v : Value} {d : DataW H} {ps : List MemPlace} (ho : ∃ a n c, v = .slice a n c) (h : DataW.Trod enc Tryz.prog W 0 (fun _ => true) true 39 v d ps) (hw : Light 39 d) : ∃ l, Ruls W v l := by
  obtain ⟨fuel, h⟩ := h
  rw [one_cell ho] at h
  exact Ruls.open h hw
theorem Unis.openT {v : Value} {d : DataW H} {ps : List MemPlace} (ho : ∃ a n c, v = .slice a n c) (h : DataW.Trod enc Tryz.prog W 0 (fun _ => true) true 41 v d ps) (hw : Light 41 d) : ∃ l, Unis W v l := by
  obtain ⟨fuel, h⟩ := h
  rw [one_cell ho] at h
  exact Unis.open h hw
theorem Wtb.openT {v : Value} {d : DataW H} {ps : List MemPlace} (ho : ∃ a n c, v = .slice a n c) (h : DataW.Trod enc Tryz.prog W 0 (fun _ => true) true 40 v d ps) (hw : Light 40 d) : ∃ l, Wtb W v l := by
  obtain ⟨fuel, h⟩ := h
  rw [one_cell ho] at h
  exact Wtb.open h hw
end
end Go.Proofs.YthnlnffmmioapaaGreatDoor
namespace Go.Proofs.YthnlnffmmioapaaGreatDoor
open Go.RowKit Go.Deep Go.WideShapes Go.ChangeShapes
section
variable {H : Type} {enc : TypeId × Value → H} {W : World}
theorem RdnC.openT {v : Value} {d : DataW H} {ps : List MemPlace} (ho : ∃ a n c, v = .slice a n c) (h : DataW.Trod enc Tryz.prog W 0 (fun _ => true) true 26 v d ps) (hw : Light 26 d) : ∃ l, Rdns W v l ∧ ∀ a k c, v = .slice a k c → k ≤ c := by
  obtain ⟨fuel, h⟩ := h
  rw [one_cell ho] at h
  obtain ⟨N, m, C, D, Q, h1, hr, h2⟩ := open_sl2 Tryz.underlying26 (sz := 2) (by kernel_rfl) (by decide) (of_decide_eq_true (by kernel_rfl)) h hw
  obtain ⟨Z, hZ⟩ := choose_lt (α := Rdn) (p := fun i z => RdnV W z (.agg #[(C i).getD 0 undef, (C i).getD 1 undef])) (fun i hi => by
    obtain ⟨h3, h4, h5⟩ := h2 i hi
    generalize C i = ci at h3 h4 ⊢
    match ci, h3, h4 with
    | [a', b'], _, h4 => exact Rdn.open_n h4 h5)
  refine ⟨(List.range N).map Z, ⟨_, by rw [List.length_map, List.length_range]; exact h1, fun j hj => ?_⟩, hr⟩
  have hj' : j < N := by simpa using hj
  simpa using hZ j hj'
end
end Go.Proofs.YthnlnffmmioapaaGreatDoor
namespace Go.Proofs.YthnlnffmmioapaaGreatDoor
open Go.RowKit Go.Deep Go.WideShapes Go.ChangeShapes
section
variable {H : Type} {enc : TypeId × Value → H} {W : World}
theorem RdnC.open {fuel : Nat} {v : Value} {x : DataW H × List MemPlace} (h : DataW.trod enc Tryz.prog W 0 (fun _ => true) true fuel 26 [v] = some x) (hw : Light 26 x.1) : ∃ l, Rdns W v l ∧ ∀ a k c, v = .slice a k c → k ≤ c := by
  obtain ⟨N, m, C, D, Q, h1, hr, h2⟩ := open_sl2 Tryz.underlying26 (sz := 2) (by kernel_rfl) (by decide) (of_decide_eq_true (by kernel_rfl)) h hw
  obtain ⟨Z, hZ⟩ := choose_lt (α := Rdn) (p := fun i z => RdnV W z (.agg #[(C i).getD 0 undef, (C i).getD 1 undef])) (fun i hi => by
    obtain ⟨h3, h4, h5⟩ := h2 i hi
    generalize C i = ci at h3 h4 ⊢
    match ci, h3, h4 with
    | [a', b'], _, h4 => exact Rdn.open_n h4 h5)
  refine ⟨(List.range N).map Z, ⟨_, by rw [List.length_map, List.length_range]; exact h1, fun j hj => ?_⟩, hr⟩
  have hj' : j < N := by simpa using hj
  simpa using hZ j hj'
theorem UnzC.openT {v : Value} {d : DataW H} {ps : List MemPlace} (ho : ∃ a n c, v = .slice a n c) (h : DataW.Trod enc Tryz.prog W 0 (fun _ => true) true 41 v d ps) (hw : Light 41 d) : ∃ l, UnzC W v l := by
  obtain ⟨fuel, h⟩ := h
  rw [one_cell ho] at h
  obtain ⟨N, m, C, D, Q, h1, hr, h2⟩ := open_sl2 Tryz.underlying41 (sz := 3) (by kernel_rfl) (by decide) (of_decide_eq_true (by kernel_rfl)) h hw
  obtain ⟨Z, hZ⟩ := choose_lt (α := List Rdn) (p := fun i z => ∃ (a b : Int) (xa : Option Addr) (xc : Nat), (.agg #[(C i).getD 0 undef, (C i).getD 1 undef, (C i).getD 2 undef] : Value) = .agg #[.int .i64 a, .int .i64 b, .slice xa z.length xc] ∧ Rdns W (.slice xa z.length xc) z ∧ z.length ≤ xc) (fun i hi => by
    obtain ⟨h3, h4, h5⟩ := h2 i hi
    generalize C i = ci at h3 h4 ⊢
    match ci, h3, h4 with
    | [a', b', c'], _, h4 =>
      obtain ⟨y0, y1, y2, n, e, _, g0, g1, g2⟩ := trod_struct3 Tryz.underlying46 h4
      have c1 : Tryz.prog.cellsOf 3 = 1 := by kernel_rfl
      have c2 : Tryz.prog.cellsOf 26 = 1 := by kernel_rfl
      simp only [c1, c2, List.drop_zero, List.drop_succ_cons, List.take_succ_cons, List.take_zero] at g0 g1 g2
      simp only [Prod.mk.injEq] at e
      rw [e.1] at h5
      obtain ⟨i0, k0, _, _⟩ := DataW.trod_int Tryz.underlying3 g0
      obtain ⟨i1, k1, _, _⟩ := DataW.trod_int Tryz.underlying3 g1
      simp only [List.cons.injEq, and_true] at k0 k1
      subst k0; subst k1
      obtain ⟨l, hl, hc⟩ := RdnC.open g2 (light_agg Tryz.underlying46 h5 2 rfl rfl)
      obtain ⟨gl, hSl, _⟩ := id hl
      obtain ⟨_, xa, xc, rfl, _⟩ := hSl
      exact ⟨l, i0, i1, xa, xc, rfl, hl, hc _ _ _ rfl⟩)
  refine ⟨(List.range N).map Z, _, by rw [List.length_map, List.length_range]; exact h1, fun j hj => ?_, hr⟩
  have hj' : j < N := by simpa using hj
  simpa using hZ j hj'
end
end Go.Proofs.YthnlnffmmioapaaGreatDoor
namespace Go.Proofs.YthnlnffmmioapaaGreatDoor
open Go.RowKit Go.Deep Go.WideShapes
variable {H : Type} {enc : TypeId × Value → H} {W : World}
theorem Strs.openT {v : Value} {d : DataW H} {ps : List MemPlace} (ho : ∃ a n c, v = .slice a n c) (h : DataW.Trod enc Tryz.prog W 0 (fun _ => true) true 25 v d ps) (hw : Light 25 d) : ∃ xs : List ByteArray, Strs W v xs := by
  obtain ⟨fuel, h⟩ := h
  rw [one_cell ho] at h
  exact Strs.open h hw
end Go.Proofs.YthnlnffmmioapaaGreatDoor
namespace Go.Proofs.YthnlnffmmioapaaGreatDoor
open Go.RowKit
def kdE (i : Nat) : List (DataW Unit) := [.lit (.string (wrdK i)), .lit (.bool (numK i)), .lit (.bool (txtK i)), .lit (.int .i64 (lstK i)), .lit (.int .i64 (mstK i))]
def kdD : DataW Unit := .agg ((List.range 14).map fun i => .agg (kdE i))
theorem at_of_take {l : List Value} {o c n : Nat} {v : Value} (h : (((l.drop o).take n).drop c).take 1 = [v]) : l[o + c]? = some v := by
  have h1 : (((l.drop o).take n).drop c)[0]? = some v := by
    have := congrArg (fun x => x[0]?) h
    simpa [List.getElem?_take] using this
  rw [List.getElem?_drop, List.getElem?_take, List.getElem?_drop] at h1
  split at h1
  · exact h1
  · cases h1
theorem kdl_of {l : List (String × DataW Unit)} {W : World} (h : laidMetH Tryz.prog l W) (hf : l.filter (fun x => x.1 == "apograph/rulelang.kinds") = [("apograph/rulelang.kinds", kdD)]) : KdL W := by
  have h1 := h.filter (fun x => x.1 == "apograph/rulelang.kinds")
  rw [hf, MakeChecks.laidMetH_plain _ _ _ (by rfl)] at h1
  have hg : Tryz.prog.globalNamed "apograph/rulelang.kinds" = some 1 := by kernel_rfl
  have ht : (Tryz.prog.globals[1]?).map (·.type) = some 122 := by kernel_rfl
  obtain ⟨ps, ⟨g', t', cs, fuel, p, q, hg', ht', hvar, hd, _, _⟩, _⟩ := h1
  obtain rfl := Option.some.inj (hg.symm.trans hg')
  obtain rfl := Option.some.inj (ht.symm.trans ht')
  obtain ⟨xs, m, _, hx, hl, hxl, hel⟩ := DataW.trod_array Tryz.underlying122 hd
  have hxs : (List.range 14).map (fun i => (.agg (kdE i) : DataW Unit)) = xs.map (·.1) := DataW.agg.inj (congrArg Prod.fst hx)
  have c5 : Tryz.prog.cellsOf 121 = 5 := by kernel_rfl
  have cs1 : Tryz.prog.cellsOf 9 = 1 := by kernel_rfl
  have cs2 : Tryz.prog.cellsOf 4 = 1 := by kernel_rfl
  have cs3 : Tryz.prog.cellsOf 3 = 1 := by kernel_rfl
  intro i hi c hc
  have hcell := World.var?_cell hg hvar (i * 5 + c)
  have h2 := hel i hi
  obtain ⟨x, hx2⟩ : ∃ x, xs[i]? = some x := ⟨_, List.getElem?_eq_getElem (by omega)⟩
  rw [hx2, c5] at h2
  have hx1 : x.1 = .agg (kdE i) := by
    have := congrArg (fun z => z[i]?) hxs
    simp only [List.getElem?_map, hx2, Option.map_some, List.getElem?_range hi, Option.some.injEq] at this
    exact this.symm
  obtain ⟨ys, n, _, he, _, hyl, hfl⟩ := DataW.trod_struct Tryz.underlying121 h2
  have f0 : DataW.trod _ Tryz.prog W 0 _ _ n 9 ((((cs.toList.drop (i * 5)).take 5).drop 0).take (Tryz.prog.cellsOf 9)) = ys[0]? := hfl 0 _ rfl
  have f1 : DataW.trod _ Tryz.prog W 0 _ _ n 4 ((((cs.toList.drop (i * 5)).take 5).drop 1).take (Tryz.prog.cellsOf 4)) = ys[1]? := hfl 1 _ rfl
  have f2 : DataW.trod _ Tryz.prog W 0 _ _ n 4 ((((cs.toList.drop (i * 5)).take 5).drop 2).take (Tryz.prog.cellsOf 4)) = ys[2]? := hfl 2 _ rfl
  have f3 : DataW.trod _ Tryz.prog W 0 _ _ n 3 ((((cs.toList.drop (i * 5)).take 5).drop 3).take (Tryz.prog.cellsOf 3)) = ys[3]? := hfl 3 _ rfl
  have f4 : DataW.trod _ Tryz.prog W 0 _ _ n 3 ((((cs.toList.drop (i * 5)).take 5).drop 4).take (Tryz.prog.cellsOf 3)) = ys[4]? := hfl 4 _ rfl
  rw [cs1] at f0
  rw [cs2] at f1 f2
  rw [cs3] at f3 f4
  rw [he] at hx1
  have hy := DataW.agg.inj hx1
  match ys, hyl, hy, f0, f1, f2, f3, f4 with
  | [y0, y1, y2, y3, y4], _, hy, f0, f1, f2, f3, f4 =>
    obtain ⟨s, e0, g0, _⟩ := DataW.trod_string Tryz.underlying9 f0
    obtain ⟨b1, e1, g1⟩ := DataW.trod_bool Tryz.underlying4 f1
    obtain ⟨b2, e2, g2⟩ := DataW.trod_bool Tryz.underlying4 f2
    obtain ⟨z3, e3, g3, _⟩ := DataW.trod_int Tryz.underlying3 f3
    obtain ⟨z4, e4, g4, _⟩ := DataW.trod_int Tryz.underlying3 f4
    subst g0 g1 g2 g3 g4
    simp only [kdE, List.map_cons, List.map_nil, List.cons.injEq, DataW.lit.injEq, Lit.string.injEq, Lit.bool.injEq, Lit.int.injEq, true_and, and_true] at hy
    obtain ⟨q0, q1, q2, q3, q4⟩ := hy
    have hs : s = bOf (wrdK i) := by rw [← q0, bOf_data]
    subst hs
    rw [hcell]
    match c, hc with
    | 0, _ => have := at_of_take e0; simpa [kdC] using this
    | 1, _ => have := at_of_take e1; rw [q1] at this; simpa [kdC] using this
    | 2, _ => have := at_of_take e2; rw [q2] at this; simpa [kdC] using this
    | 3, _ => have := at_of_take e3; rw [q3] at this; simpa [kdC] using this
    | 4, _ => have := at_of_take e4; rw [q4] at this; simpa [kdC] using this
def kfN : List (List UInt8) := [[97, 112, 111, 103, 114, 97, 112, 104, 47, 99, 108, 97, 115, 115, 105, 102, 121, 46, 107, 105, 110, 100, 115, 36, 49], [97, 112, 111, 103, 114, 97, 112, 104, 47, 99, 108, 97, 115, 115, 105, 102, 121, 46, 107, 105, 110, 100, 115, 36, 50], [97, 112, 111, 103, 114, 97, 112, 104, 47, 99, 108, 97, 115, 115, 105, 102, 121, 46, 107, 105, 110, 100, 115, 36, 51], [97, 112, 111, 103, 114, 97, 112, 104, 47, 99, 108, 97, 115, 115, 105, 102, 121, 46, 107, 105, 110, 100, 115, 36, 52], [97, 112, 111, 103, 114, 97, 112, 104, 47, 99, 108, 97, 115, 115, 105, 102, 121, 46, 107, 105, 110, 100, 115, 36, 53], [97, 112, 111, 103, 114, 97, 112, 104, 47, 99, 108, 97, 115, 115, 105, 102, 121, 46, 107, 105, 110, 100, 115, 36, 54], [97, 112, 111, 103, 114, 97, 112, 104, 47, 99, 108, 97, 115, 115, 105, 102, 121, 46, 107, 105, 110, 100, 115, 36, 55], [97, 112, 111, 103, 114, 97, 112, 104, 47, 99, 108, 97, 115, 115, 105, 102, 121, 46, 107, 105, 110, 100, 115, 36, 56], [97, 112, 111, 103, 114, 97, 112, 104, 47, 99, 108, 97, 115, 115, 105, 102, 121, 46, 107, 105, 110, 100, 115, 36, 57], [97, 112, 111, 103, 114, 97, 112, 104, 47, 99, 108, 97, 115, 115, 105, 102, 121, 46, 107, 105, 110, 100, 115, 36, 49, 48]]
def kfD : DataW Unit := .agg (.nil :: kfN.map fun s => .iface "func" (.lit (.string s)))
def kfO : List (DataW (List UInt8)) := .nil :: kfN.map fun s => .held s
theorem kfl_of {l : List (String × DataW Unit)} {W : World} (h : laidMetH Tryz.prog l W) (hf : l.filter (fun x => x.1 == "apograph/classify.kinds") = [("apograph/classify.kinds", .iface "func table" kfD)]) : KfL W := by
  have hm : ("apograph/classify.kinds", DataW.iface "func table" kfD) ∈ l := (List.mem_filter (p := fun x => x.1 == "apograph/classify.kinds").1 (by rw [hf]; exact List.mem_cons_self)).1
  have hg : Tryz.prog.globalNamed "apograph/classify.kinds" = some 0 := by kernel_rfl
  have ht : (Tryz.prog.globals[0]?).map (·.type) = some 81 := by kernel_rfl
  obtain ⟨g', t', cs, fuel, p, hg', ht', hvar, hd⟩ := h.funcs hm
  obtain rfl := Option.some.inj (hg.symm.trans hg')
  obtain rfl := Option.some.inj (ht.symm.trans ht')
  have hd' : DataW.trod (funcToken Tryz.prog) Tryz.prog W 0 (fun _ => true) true fuel 81 cs.toList = some (.agg kfO, p) := hd
  obtain ⟨xs, m, _, hx, hl, hxl, hel⟩ := DataW.trod_array Tryz.underlying81 hd'
  have hxs : kfO = xs.map (·.1) := DataW.agg.inj (congrArg Prod.fst hx)
  have c1 : Tryz.prog.cellsOf 61 = 1 := by kernel_rfl
  have c11 : Tryz.prog.cellsOf 81 = 11 := by kernel_rfl
  rw [c11] at hl
  have key : ∀ i, i < 11 → ∃ v y, cs.toList[i]? = some v ∧ DataW.trod (funcToken Tryz.prog) Tryz.prog W 0 (fun _ => true) true m 61 [v] = some y ∧ kfO[i]? = some y.1 := fun i hi => by
    have h2 := hel i hi
    obtain ⟨y, hy⟩ : ∃ y, xs[i]? = some y := ⟨_, List.getElem?_eq_getElem (by omega)⟩
    have hv : cs.toList[i]? = some (cs.toList[i]'(by omega)) := List.getElem?_eq_getElem (by omega)
    rw [hy, c1, Nat.mul_one] at h2
    have e1 : (cs.toList.drop i).take 1 = [cs.toList[i]'(by omega)] := by
      rw [List.drop_eq_getElem_cons (show i < cs.toList.length by omega)]
      rfl
    rw [e1] at h2
    exact ⟨_, y, hv, h2, by rw [hxs, List.getElem?_map, hy]; rfl⟩
  intro i h0 hi
  have hcell := World.var?_cell hg hvar i
  rw [hcell]
  obtain ⟨v, ⟨y1, y2⟩, hv, hr, ho⟩ := key i hi
  match i, h0, hi with
  | 1, _, _ =>
    obtain rfl := Option.some.inj ho
    obtain rfl := func_of_trod (f0 := 159) Tryz.underlying61 (by kernel_rfl) hr
    simpa [kfC] using hv
  | 2, _, _ =>
    obtain rfl := Option.some.inj ho
    obtain rfl := func_of_trod (f0 := 160) Tryz.underlying61 (by kernel_rfl) hr
    simpa [kfC] using hv
  | 3, _, _ =>
    obtain rfl := Option.some.inj ho
    obtain rfl := func_of_trod (f0 := 161) Tryz.underlying61 (by kernel_rfl) hr
    simpa [kfC] using hv
  | 4, _, _ =>
    obtain rfl := Option.some.inj ho
    obtain rfl := func_of_trod (f0 := 162) Tryz.underlying61 (by kernel_rfl) hr
    simpa [kfC] using hv
  | 5, _, _ =>
    obtain rfl := Option.some.inj ho
    obtain rfl := func_of_trod (f0 := 166) Tryz.underlying61 (by kernel_rfl) hr
    simpa [kfC] using hv
  | 6, _, _ =>
    obtain rfl := Option.some.inj ho
    obtain rfl := func_of_trod (f0 := 168) Tryz.underlying61 (by kernel_rfl) hr
    simpa [kfC] using hv
  | 7, _, _ =>
    obtain rfl := Option.some.inj ho
    obtain rfl := func_of_trod (f0 := 169) Tryz.underlying61 (by kernel_rfl) hr
    simpa [kfC] using hv
  | 8, _, _ =>
    obtain rfl := Option.some.inj ho
    obtain rfl := func_of_trod (f0 := 170) Tryz.underlying61 (by kernel_rfl) hr
    simpa [kfC] using hv
  | 9, _, _ =>
    obtain rfl := Option.some.inj ho
    obtain rfl := func_of_trod (f0 := 172) Tryz.underlying61 (by kernel_rfl) hr
    simpa [kfC] using hv
  | 10, _, _ =>
    obtain rfl := Option.some.inj ho
    obtain rfl := func_of_trod (f0 := 173) Tryz.underlying61 (by kernel_rfl) hr
    simpa [kfC] using hv
theorem tbl_of {l : List (String × DataW Unit)} {W : World} (h : laidMetH Tryz.prog l W) (hf : l.filter (fun x => x.1 == "internal/strconv.uint64pow10") = [("internal/strconv.uint64pow10", Lib.tabData .u64 Lib.pow10Tab)]) : TbL W := by
  have h1 := h.filter (fun x => x.1 == "internal/strconv.uint64pow10")
  rw [hf, MakeChecks.laidMetH_plain _ _ _ (by rfl)] at h1
  exact Lib.tabIs_of_head (g := 3) (t := 156) (e := 150) (n := 20) (by kernel_rfl) (by kernel_rfl) Tryz.underlying156 Tryz.underlying150 (by kernel_rfl) (by kernel_rfl) h1
end Go.Proofs.YthnlnffmmioapaaGreatDoor
namespace Go.Proofs.YthnlnffmmioapaaGreatDoor
theorem changeAndS {H : Type} {enc : TypeId × Value → H} {a : Assume} {C : Checked} {os : Os} {f : FuncId} {fn : Func} {s : ChangeSpec} {conds : List PathCond} {apart fresh handsOn again : Bool} {X : World → Array Value → Prop}
    (hX : ∀ (w w' : World) (args : Array Value), w.heap = w'.heap → X w args → X w' args)
    (own : ownKnob C.prog.godebug = none) (started : os.Started) (noInit : C.prog.inits.idxOf? f = none) (hfn : C.prog.funcs[f]? = some fn)
    (witness : ∃ (w : World) (tape : Tape) (i : Input), w.os = os ∧ (w.forCall tape i).Shaped C.prog ∧ i.vars = [] ∧ Input.okWide C.prog (w.forCall tape i) .any w.heap.size f i ∧
      ((s.pre enc C.prog fn conds apart (w.forCall tape i).memory i.args ∧ X (w.forCall tape i).memory i.args) ∧ sizedMet enc C.prog fn (OpenSpec.ofChange s) apart (w.forCall tape i).memory i.args) ∧ a.holds C.prog (lone (Frame.enter C.prog f i.args .normal) [] (w.forCall tape i)))
    (contract : ∀ (W : World) (base : Nat) (args : Array Value) (ds gs : List (DataW H)) (before : List MemPlace),
      (∀ (j : Nat) t v, fn.params[j]? = some t → args[j]? = some v → Value.okWide C.prog W .any base t v) →
      DataW.Whole enc C.prog fn.params.toList s.vars apart W args.toList ds gs before →
      conds.all (PathCond.test C.prog ⟨fn.params.toList, ds, s.plain.varTypes C.prog, gs⟩) = true →
      (DataW.weightsEach C.prog (fn.params.toList ++ s.plain.varTypes C.prog) (ds ++ gs)).all (· ≤ reachBytes) = true → X W args → W.ShapedOpen C.prog →
      a.holds C.prog (lone (Frame.enter C.prog f args .normal) [] W) →
      Calls C.prog f args W fun e W' => ∃ v, e = .returned v ∧ s.post enc C.prog fn apart fresh handsOn again W args v W') :
    ReturnsInHanded a C os f .any (fun w args => (s.pre enc C.prog fn conds apart w args ∧ X w args) ∧ sizedMet enc C.prog fn (OpenSpec.ofChange s) apart w args) (s.post enc C.prog fn apart fresh handsOn again) := by
  refine returnsInHanded_of_calls own started noInit witness ?_
  intro w tape i _ hsh _ hok hpre hholds
  obtain ⟨_, _, _, fn', hfn', _, _, _, _, hval⟩ := hok
  have e : fn' = fn := Option.some.inj (hfn'.symm.trans hfn)
  subst e
  obtain ⟨⟨⟨ds, gs, before, hw, hc⟩, hx⟩, hz⟩ := hpre
  have hw' := DataW.Whole.of_heap (w' := w.forCall tape i) (by rfl) hw
  refine (contract (w.forCall tape i) w.heap.size i.args ds gs before hval hw' hc (hz.weights hw) (hX _ _ _ (by rfl) hx) hsh hholds).mono fun e W' ⟨v, he, hp⟩ => ?_
  subst he
  exact ChangeSpec.post_blind hp
end Go.Proofs.YthnlnffmmioapaaGreatDoor
