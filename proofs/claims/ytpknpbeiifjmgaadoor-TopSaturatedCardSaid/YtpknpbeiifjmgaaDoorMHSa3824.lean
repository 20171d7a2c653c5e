/-
  Part 24 of the proof: Tw38, Open, Crd. No statement of the seat is proved here.
-/
import Derived.Test.YtpknpbeiifjmgaaDoorMHSa3823
import Derived.ProofKit
import Derived.SizedLaws
import Derived.Deep.Strs
import Derived.Test.YtpknpbeiifjmgaaDoorRows
import Derived.HandedShaped
import Derived.LaidMore
import Derived.Lay
namespace Go.Proofs.YtpknpbeiifjmgaaDoor
open Go.RowKit
def awTr : Tre := ⟨awP, awN⟩
def awS : List Int := [-1, 0, -1, 1, -1, 0, 1]
theorem awT_facts : ftE awTr = 0 ∧ scN (ftS awTr) awS = 2 ∧ scE (ftS awTr) awS = 0 ∧ extE (ftS awTr) 6 3 = 0 ∧ scN (extS (ftS awTr) 6 3) awS = 1 ∧ scE (extS (ftS awTr) 6 3) awS = 0 := by decide +kernel
set_option maxRecDepth 100000 in
set_option maxHeartbeats 4000000 in
theorem awakeT38_sat (w : World) : SatV Tryd.prog 7 [] w (.bool true) := by
  obtain ⟨f1, f2, f3, f4, f5, f6⟩ := awT_facts
  have hft : ∀ v w1, Tri w1 v awTr → Sat Tryd.prog 14 [v] w1 (fun u L => ∃ na nn nc ea en ec pa pn pc, u = .tuple #[.agg #[.slice na nn nc, .slice ea en ec, .slice pa pn pc], .int .i64 0] ∧ ∃ vs, ∀ w0 w, Hp w0.heap.size w0 w L → StV w (.agg #[.slice na nn nc, .slice ea en ec, .slice pa pn pc]) (ftS awTr) vs) := fun v w1 h =>
    (FromTree2_sat v awTr w1 h).mono fun u L hR => by
      rcases hR with ⟨h1, _⟩ | ⟨_, na, nc, ea, ec, pa, pc, h2, h3⟩
      · exact absurd f1 h1
      · exact ⟨na, _, nc, ea, _, ec, pa, _, pc, h2, h3⟩
  have hs1 : ∀ v sv w1, Stm w1 v (ftS awTr) → Ints w1 sv awS → SatV Tryd.prog 10 [v, sv] w1 (.tuple #[.int .i64 2, .int .i64 0]) := fun v sv w1 h h2 => by
    have := Score_sat v sv _ _ w1 h h2
    rwa [f2, f3] at this
  have hs2 : ∀ v sv w1, Stm w1 v (extS (ftS awTr) 6 3) → Ints w1 sv awS → SatV Tryd.prog 10 [v, sv] w1 (.tuple #[.int .i64 1, .int .i64 0]) := fun v sv w1 h h2 => by
    have := Score_sat v sv _ _ w1 h h2
    rwa [f5, f6] at this
  have hx : ∀ v vs w1, StV w1 v (ftS awTr) vs → Sat Tryd.prog 8 [v, .int .i64 6, .int .i64 3] w1 (fun u L => ∃ na nn nc ea en ec pa pn pc, u = .tuple #[.agg #[.slice na nn nc, .slice ea en ec, .slice pa pn pc], .int .i64 0] ∧ ∃ vs', ∀ w0 w, Hp w0.heap.size w0 w L → StV w v (ftS awTr) vs → StV w (.agg #[.slice na nn nc, .slice ea en ec, .slice pa pn pc]) (extS (ftS awTr) 6 3) vs') := fun v vs w1 h =>
    (Extend2_sat v _ 6 3 vs w1 h).mono fun u L hR => by
      rcases hR with ⟨h1, _⟩ | ⟨_, na, nc, ea, ec, pa, pc, h2, h3⟩
      · exact absurd f4 h1
      · exact ⟨na, _, nc, ea, _, ec, pa, _, pc, h2, h3⟩
  have hsN : ∀ s ∈ awN, s.size ≤ 140737488355328 := by decide
  refine SatL.of 52 [0] Tryd.func7 (by kernel_rfl) (by kernel_rfl) rfl rfl rfl rfl ?_
  repeat' (first|(apply OK_seq)|(apply thenQ_n)|(apply OK_region)|(apply OKx_gc 13;exact rfl; refine OKx_call (f := 13) rfl rfl (fun w1 hp => parse_sat w1) ?_; rintro _ _ ⟨pa1, pc1, na1, nc1, rfl, rfl⟩; rw [List.cons_append, List.cons_append, List.nil_append])|(apply OKx_gc 14;exact rfl; refine OKx_call (f := 14) rfl rfl (fun w1 hp => hft _ w1 ⟨_, _, rfl, hp.ints 1 rfl (by decide), hp.strs 2 rfl (by decide) hsN⟩) ?_; rintro _ Z1 ⟨na, nn, nc, ea, en, ec, pa, pn, pc, rfl, vs, hZ1⟩; refine OKx_ent (Ent.sub (List.sublist_append_left _ _)) ?_)|(apply OKx_gt; refine OKx_slit (vs := [.int .i64 (-1), .int .i64 0, .int .i64 (-1), .int .i64 1, .int .i64 (-1), .int .i64 0, .int .i64 1]) (cs := [[.int .i64 (-1)], [.int .i64 0], [.int .i64 (-1)], [.int .i64 1], [.int .i64 (-1)], [.int .i64 0], [.int .i64 1]]) (ints awS) rfl rfl rfl rfl rfl rfl ?_; intro gd)|(apply OKx_gc 10;exact rfl; refine OKx_callV (f := 10) rfl rfl rfl (fun w1 hp => hs1 _ _ w1 (hZ1 w w1 (hp.sub ((List.sublist_cons_self _ _).trans (List.sublist_cons_self _ _)))).stm (hp.ints 0 rfl (by decide))) ?_)|(apply OKx_gc 8;exact rfl; refine OKx_call (f := 8) rfl rfl (fun w1 hp => hx _ vs w1 (hZ1 w w1 (hp.sub ((List.sublist_cons_self _ _).trans (List.sublist_cons_self _ _))))) ?_; rintro _ Z3 ⟨na3, nn3, nc3, ea3, en3, ec3, pa3, pn3, pc3, rfl, vs3, hZ3⟩; refine OKx_ent (Ent.sub ((List.Sublist.refl Z3).append ((List.sublist_cons_self _ _).trans (List.sublist_cons_self _ _)))) ?_)|(apply OKx_gc 10;exact rfl; refine OKx_callV (f := 10) rfl rfl rfl (fun w1 hp => hs2 _ _ w1 (hZ3 w w1 (hp.sub (((List.sublist_append_left _ _).cons _).cons _)) (hZ1 w w1 (hp.sub (((List.sublist_append_right _ _).cons _).cons _)))).stm (hp.ints 0 rfl (by decide))) ?_)|(apply OKx_gb; refine OKx_max5 (r := 0) rfl rfl rfl rfl rfl (by decide) ?_)|(apply OKx_nilK)|(apply OK_block)|(apply blockQ_n)|(apply blockQ_s)|(apply thenQ_e)|(apply blockQ_e;exact rfl)|(apply thenQ_r)|(apply blockQ_r)|(apply OK_condT;exact rfl)|(apply OK_condF;exact rfl)|(apply OK_skip)|(apply OK_exit)|(apply OK_ret)|(apply OKx_move;(conv=>lhs;whnf)<;>exact rfl)|(apply OKx_assign;(conv=>lhs;whnf)<;>exact rfl)|(apply OKx_eql;exact rfl;exact rfl;all_goals (intro _; try (exfalso;omega)))|(apply OKx_max;exact rfl;exact rfl)|(apply OKx_pickT;exact rfl;(conv=>lhs;whnf)<;>exact rfl)|(apply OKx_pickF;exact rfl;(conv=>lhs;whnf)<;>exact rfl)|(apply OKx_guardT;exact rfl;exact rfl)|(apply OKx_guardF;exact rfl;exact rfl)|(apply OKx_guardU;exact rfl;exact rfl)|(apply OKx_extract;exact rfl;(conv=>lhs;whnf)<;>exact rfl)|(apply OKx_allocA;intro _)|(apply OKx_ldBA;exact rfl;(first | exact at0|exact at1|exact at2|exact at3|exact at4|exact at5|exact at6|exact at7);exact rfl)|(apply OKx_ldRA;(conv=>lhs;whnf)<;>exact rfl;(with_reducible assumption))|(apply OKx_stBA; kernel_rfl;exact rfl;exact rfl;exact rfl;(first | exact at0|exact at1|exact at2|exact at3|exact at4|exact at5|exact at6|exact at7);exact rfl;exact rfl;exact rfl))
  refine bodyQ_r1 (by ((conv=>lhs;whnf)<;>exact rfl)) ?_
  exact ⟨_, Ent.nil, rfl, rfl⟩
set_option maxRecDepth 100000 in
set_option maxHeartbeats 4000000 in
theorem TopSat_sat (v av : Value) (s : Stem) (st : List Int) (w : World) (h : Stm w v s) (ha : Ints w av st) (_hm : MxL w) : SatV Tryd.prog 3 [v, av] w (.bool true) :=
  TopSaturated_sat v av s st w h ha (fun w1 => awakeT38_sat w1)
end Go.Proofs.YtpknpbeiifjmgaaDoor
namespace Go.Proofs.YtpknpbeiifjmgaaDoor
open Go.RowKit Go.Deep Go.WideShapes
section
variable {H : Type} {enc : TypeId × Value → H} {W : World}
def Light (t : TypeId) (d : DataW H) : Prop := ∀ n ∈ d.weights Tryd.prog t, n ≤ 140737488355328
theorem light_all {e : TypeId} {els : List (DataW H)} {d : DataW H} (hd : d ∈ els) {n : Nat} (hn : n ∈ d.weights Tryd.prog e) : n ∈ DataW.weightsAll Tryd.prog e els := by
  induction els with
  | nil => simp at hd
  | cons a r ih =>
    simp only [DataW.weightsAll, List.mem_append]
    rcases List.mem_cons.1 hd with rfl | h
    · exact .inl hn
    · exact .inr (ih h)
theorem light_slice {t e : TypeId} {els sp : List (DataW H)} (hu : Tryd.prog.underlying t = some (.slice e)) (h : Light t (.slice els sp)) : (els.length + sp.length) * Tryd.prog.bytesOf e ≤ 140737488355328 ∧ ∀ d ∈ els, Light e d := by
  unfold Light at *
  simp only [DataW.weights, hu] at h
  exact ⟨h _ (by simp), fun d hd n hn => h n (by simp [light_all hd hn])⟩
theorem light_agg {t : TypeId} {fs : Array Field} {parts : List (DataW H)} (hu : Tryd.prog.underlying t = some (.struct fs)) (h : Light t (.agg parts)) (j : Nat) {ty : TypeId} {d : DataW H} (h1 : (fs.toList.map (·.type))[j]? = some ty) (h2 : parts[j]? = some d) : Light ty d := by
  intro n hn
  refine h n ?_
  simp only [DataW.weights, hu]
  exact DataW.weights_mem_each h1 h2 n hn
theorem light_each {ts : List TypeId} {ds : List (DataW H)} (h : (DataW.weightsEach Tryd.prog ts ds).all (· ≤ reachBytes) = true) (j : Nat) {t : TypeId} {d : DataW H} (h1 : ts[j]? = some t) (h2 : ds[j]? = some d) : Light t d := by
  intro n hn
  have : n ≤ reachBytes := by simpa using List.all_eq_true.1 h _ (DataW.weights_mem_each h1 h2 n hn)
  have r : reachBytes = 140737488351232 := rfl
  omega
theorem light_string {t : TypeId} {b : List UInt8} (h : Light t (.lit (.string b) : DataW H)) : b.length ≤ 140737488355328 := h _ (by simp [DataW.weights])
theorem wf_range {z : Int} (h : (Lit.int .i64 z).wf = true) : -9223372036854775808 ≤ z ∧ z ≤ 9223372036854775807 := by
  have e1 : IntKind.i64.min = -9223372036854775808 := rfl
  have e2 : IntKind.i64.max = 9223372036854775807 := rfl
  simp only [Lit.wf, Bool.and_eq_true, decide_eq_true_eq] at h
  omega
theorem open_sl2 {t e : TypeId} {fuel sz : Nat} {v : Value} {x : DataW H × List MemPlace} (ht : Tryd.prog.underlying t = some (.slice e)) (hc : Tryd.prog.cellsOf e = sz) (hsz : 0 < sz) (hb : 0 < Tryd.prog.bytesOf e)
    (h : DataW.trod enc Tryd.prog W 0 (fun _ => true) true fuel t [v] = some x) (hw : Light t x.1) :
    ∃ (n m : Nat) (C : Nat → List Value) (D : Nat → DataW H) (Q : Nat → List MemPlace), Sl2 W v sz n (fun j c => (C j).getD c undef) ∧ (∀ a k c, v = .slice a k c → k ≤ c) ∧
      ∀ i, i < n → (C i).length = sz ∧ DataW.trod enc Tryd.prog W 0 (fun _ => true) true m e (C i) = some (D i, Q i) ∧ Light e (D i) := by
  rcases open_slice ht h with ⟨h1, h2⟩ | ⟨a, len, cap, m, n, D, Q, h1, _, hl, hm, hmm, rfl, hx⟩
  · simp only [List.cons.injEq, and_true] at h1
    subst h1; subst h2
    refine ⟨0, 0, fun _ => [], fun _ => .nil, fun _ => [], ⟨by omega, none, 0, rfl, .inl rfl⟩, ?_, fun i hi => absurd hi (by omega)⟩
    intro a k c e
    cases e; exact Nat.le_refl _
  · simp only [List.cons.injEq, and_true] at h1
    subst h1
    simp only [if_true] at hmm
    subst hmm
    obtain ⟨hw1, hw2⟩ := light_slice ht hw
    rw [hc] at hx
    have hx' : ∀ i, i < len → ∃ cs', W.cells? 0 (a.add (i * sz)) sz = some cs' ∧ DataW.trod enc Tryd.prog W 0 (fun _ => true) true n e cs' = some (D i, Q i) := fun i hi => hx i (by omega)
    obtain ⟨C, hC⟩ := choose_lt (α := List Value) hx'
    have hlen : len ≤ 140737488355328 := by
      have : len * 1 ≤ len * Tryd.prog.bytesOf e := Nat.mul_le_mul_left _ hb
      simp only [List.length_map, List.length_range] at hw1
      have h3 : len * Tryd.prog.bytesOf e ≤ (len + (m - len)) * Tryd.prog.bytesOf e := Nat.mul_le_mul_right _ (by omega)
      omega
    refine ⟨len, n, C, D, Q, ⟨hlen, some a, m, rfl, ?_⟩, ?_, fun i hi => ?_⟩
    · by_cases h0 : len = 0
      · exact .inl h0
      right
      obtain ⟨b, off, spot⟩ := a
      have hs : spot = none := by
        obtain ⟨_, h4, h5⟩ := World.cells?_some (hC 0 (by omega)).1
        have h6 := h5 0 hsz
        obtain ⟨u, hu⟩ : ∃ u, (C 0)[0]? = some u := ⟨_, List.getElem?_eq_getElem (by omega)⟩
        rw [hu] at h6
        simpa [Addr.add] using World.cell?_spot h6
      subst hs
      refine ⟨b, off, rfl, fun j hj c hcs => ?_⟩
      obtain ⟨_, h4, h5⟩ := World.cells?_some (hC j hj).1
      have h6 := h5 c hcs
      rw [add_plain, add_plain] at h6
      rw [h6]
      simp [h4, hcs]
    · intro a' k c e
      cases e; exact hl
    · obtain ⟨_, h4, h5⟩ := World.cells?_some (hC i hi).1
      refine ⟨h4, (hC i hi).2, hw2 _ ?_⟩
      exact List.mem_map.2 ⟨i, List.mem_range.2 hi, rfl⟩
theorem Sl2.flat {v : Value} {sz n : Nat} {g : Nat → Nat → Value} (h : Sl2 W v sz n g) (hr : ∀ a k c, v = .slice a k c → k ≤ c) (f : Nat → Value) (hf : ∀ j, j < n → ∀ c, c < sz → f (j * sz + c) = g j c) (hsz : 0 < sz) : Sl W v sz n f := by
  obtain ⟨h1, a, cap, rfl, h2⟩ := h
  refine ⟨h1, ⟨a, cap, rfl, ?_⟩, hr⟩
  rcases h2 with h0 | ⟨b, off, ha, hc⟩
  · exact .inl h0
  refine .inr ⟨b, off, ha, fun j hj => ?_⟩
  have h3 := Nat.div_add_mod j sz
  have h4 := Nat.mod_lt j hsz
  have h5 : j / sz < n := (Nat.div_lt_iff_lt_mul hsz).2 hj
  have h6 := hc (j / sz) h5 (j % sz) h4
  have h7 := hf (j / sz) h5 (j % sz) h4
  have h8 : j / sz * sz + j % sz = j := by rw [Nat.mul_comm]; exact h3
  rw [Nat.add_assoc, h8] at h6
  rw [h8] at h7
  rw [h6, h7]
theorem open_sl {t e : TypeId} {fuel : Nat} {v : Value} {x : DataW H × List MemPlace} (ht : Tryd.prog.underlying t = some (.slice e)) (hc : Tryd.prog.cellsOf e = 1) (hb : 0 < Tryd.prog.bytesOf e)
    (h : DataW.trod enc Tryd.prog W 0 (fun _ => true) true fuel t [v] = some x) (hw : Light t x.1) :
    ∃ (n m : Nat) (V : Nat → Value) (D : Nat → DataW H) (Q : Nat → List MemPlace), Sl W v 1 n V ∧
      ∀ i, i < n → DataW.trod enc Tryd.prog W 0 (fun _ => true) true m e [V i] = some (D i, Q i) ∧ Light e (D i) := by
  obtain ⟨n, m, C, D, Q, h1, h2, h3⟩ := open_sl2 ht hc (by decide) hb h hw
  refine ⟨n, m, fun j => (C j).getD 0 undef, D, Q, h1.flat h2 _ (fun j hj c hcs => ?_) (by decide), fun i hi => ?_⟩
  · obtain rfl : c = 0 := by omega
    simp
  · obtain ⟨h4, h5, h6⟩ := h3 i hi
    refine ⟨?_, h6⟩
    match hCi : C i, h4 with
    | [u], _ => rw [hCi] at h5; simpa [hCi] using h5
theorem range_getD {α : Type} (n : Nat) (f : Nat → α) (d : α) (j : Nat) (h : j < n) : ((List.range n).map f).getD j d = f j := by simp [h]
theorem Ints.open {fuel : Nat} {v : Value} {x : DataW H × List MemPlace} (h : DataW.trod enc Tryd.prog W 0 (fun _ => true) true fuel 27 [v] = some x) (hw : Light 27 x.1) :
    ∃ xs : List Int, Ints W v xs ∧ ∀ i ∈ xs, -9223372036854775808 ≤ i ∧ i ≤ 9223372036854775807 := by
  obtain ⟨n, m, V, D, Q, h1, h2⟩ := open_sl Tryd.underlying27 (by kernel_rfl) (of_decide_eq_true (by kernel_rfl)) h hw
  obtain ⟨Z, hZ⟩ := choose_lt (α := Int) (p := fun i z => V i = .int .i64 z ∧ -9223372036854775808 ≤ z ∧ z ≤ 9223372036854775807) (fun i hi => by
    obtain ⟨z, h4, _, h5⟩ := DataW.trod_int Tryd.underlying3 (h2 i hi).1
    refine ⟨z, by simpa using h4, ?_⟩
    have e1 : IntKind.i64.min = -9223372036854775808 := rfl
    have e2 : IntKind.i64.max = 9223372036854775807 := rfl
    simp only [Lit.wf, Bool.and_eq_true, decide_eq_true_eq] at h5
    omega)
  refine ⟨(List.range n).map Z, ?_, ?_⟩
  · unfold Ints
    rw [List.length_map, List.length_range]
    exact h1.congr fun j hj => (hZ j (by omega)).1.trans (by rw [range_getD _ _ _ _ (by omega)])
  · intro i hi
    obtain ⟨j, hj, rfl⟩ := List.mem_map.1 hi
    exact (hZ j (List.mem_range.1 hj)).2
theorem Bools.open {fuel : Nat} {v : Value} {x : DataW H × List MemPlace} (h : DataW.trod enc Tryd.prog W 0 (fun _ => true) true fuel 23 [v] = some x) (hw : Light 23 x.1) :
    ∃ xs : List Bool, Bools W v xs := by
  obtain ⟨n, m, V, D, Q, h1, h2⟩ := open_sl Tryd.underlying23 (by kernel_rfl) (of_decide_eq_true (by kernel_rfl)) h hw
  obtain ⟨Z, hZ⟩ := choose_lt (α := Bool) (p := fun i z => V i = .bool z) (fun i hi => by
    obtain ⟨z, h4, _⟩ := DataW.trod_bool Tryd.underlying4 (h2 i hi).1
    exact ⟨z, by simpa using h4⟩)
  refine ⟨(List.range n).map Z, ?_⟩
  unfold Bools
  rw [List.length_map, List.length_range]
  exact h1.congr fun j hj => (hZ j (by omega)).trans (by rw [range_getD _ _ _ _ (by omega)])
theorem Strs.open {fuel : Nat} {v : Value} {x : DataW H × List MemPlace} (h : DataW.trod enc Tryd.prog W 0 (fun _ => true) true fuel 22 [v] = some x) (hw : Light 22 x.1) :
    ∃ xs : List ByteArray, Strs W v xs := by
  obtain ⟨n, m, V, D, Q, h1, h2⟩ := open_sl Tryd.underlying22 (by kernel_rfl) (of_decide_eq_true (by kernel_rfl)) h hw
  obtain ⟨Z, hZ⟩ := choose_lt (α := ByteArray) (p := fun i z => V i = .string z ∧ z.size ≤ 140737488355328) (fun i hi => by
    obtain ⟨h3, h4⟩ := h2 i hi
    obtain ⟨z, h5, h6, _⟩ := DataW.trod_string Tryd.underlying9 h3
    simp only [Prod.mk.injEq] at h6
    rw [h6.1] at h4
    exact ⟨z, by simpa using h5, by simpa using light_string h4⟩)
  refine ⟨(List.range n).map Z, ?_, ?_⟩
  · rw [List.length_map, List.length_range]
    exact h1.congr fun j hj => (hZ j (by omega)).1.trans (by rw [range_getD _ _ _ _ (by omega)])
  · intro i hi
    obtain ⟨j, hj, rfl⟩ := List.mem_map.1 hi
    exact (hZ j (List.mem_range.1 hj)).2
theorem Tabs.open {fuel : Nat} {v : Value} {x : DataW H × List MemPlace} (h : DataW.trod enc Tryd.prog W 0 (fun _ => true) true fuel 24 [v] = some x) (hw : Light 24 x.1) :
    ∃ xs : List (List Int), Tabs W v xs ∧ ∀ r ∈ xs, ∀ i ∈ r, -9223372036854775808 ≤ i ∧ i ≤ 9223372036854775807 := by
  obtain ⟨n, m, V, D, Q, h1, h2⟩ := open_sl Tryd.underlying24 (by kernel_rfl) (of_decide_eq_true (by kernel_rfl)) h hw
  obtain ⟨Z, hZ⟩ := choose_lt (α := List Int) (p := fun i z => Ints W (V i) z ∧ ∀ i ∈ z, -9223372036854775808 ≤ i ∧ i ≤ 9223372036854775807) (fun i hi => Ints.open (h2 i hi).1 (h2 i hi).2)
  refine ⟨(List.range n).map Z, ⟨(List.range n).map V, ?_, by simp, ?_⟩, ?_⟩
  · rw [List.length_map, List.length_range]
    exact h1.congr fun j hj => by rw [range_getD _ _ _ _ (by omega)]
  · intro j hj
    have hj' : j < n := by simpa using hj
    rw [range_getD _ _ _ _ hj']
    simpa using (hZ j hj').1
  · intro i hi
    obtain ⟨j, hj, rfl⟩ := List.mem_map.1 hi
    exact (hZ j (List.mem_range.1 hj)).2
theorem Stm.open {v : Value} {d : DataW H} {ps : List MemPlace} (ho : ∃ cs, v = .agg cs ∧ cs.size = Tryd.prog.cellsOf 26) (h : DataW.Trod enc Tryd.prog W 0 (fun _ => true) true 26 v d ps) (hw : Light 26 d) :
    ∃ s, Stm W v s := by
  obtain ⟨⟨cl⟩, rfl, hsz⟩ := ho
  have hC : Tryd.prog.cellsOf 26 = 3 := by kernel_rfl
  rw [hC] at hsz
  obtain ⟨fuel, h⟩ := h
  match cl, hsz with
  | [nv, ev, pv], _ =>
    obtain ⟨y0, y1, y2, n, e, _, h0, h1, h2⟩ := trod_struct3 Tryd.underlying26 h
    simp only [Prod.mk.injEq] at e
    obtain ⟨rfl, rfl⟩ := e
    have c1 : Tryd.prog.cellsOf 22 = 1 := by kernel_rfl
    have c2 : Tryd.prog.cellsOf 23 = 1 := by kernel_rfl
    have c3 : Tryd.prog.cellsOf 24 = 1 := by kernel_rfl
    obtain ⟨xs, hx⟩ := Strs.open (v := nv) (by simpa [Value.cells, c1] using h0) (light_agg Tryd.underlying26 hw 0 rfl rfl)
    obtain ⟨ys, hy⟩ := Bools.open (v := ev) (by simpa [Value.cells, c2] using h1) (light_agg Tryd.underlying26 hw 1 rfl rfl)
    obtain ⟨zs, hz, _⟩ := Tabs.open (v := pv) (by simpa [Value.cells, c3] using h2) (light_agg Tryd.underlying26 hw 2 rfl rfl)
    exact ⟨⟨xs, ys, zs⟩, nv, ev, pv, rfl, hx, hy, hz⟩
end
section
variable {H : Type} {enc : TypeId × Value → H} {W : World}
theorem one_cell {v : Value} (ho : ∃ a n c, v = .slice a n c) : v.cells.toList = [v] := by obtain ⟨a, n, c, rfl⟩ := ho; rfl
theorem Ints.openT {v : Value} {d : DataW H} {ps : List MemPlace} (ho : ∃ a n c, v = .slice a n c) (h : DataW.Trod enc Tryd.prog W 0 (fun _ => true) true 27 v d ps) (hw : Light 27 d) :
    ∃ xs : List Int, Ints W v xs ∧ ∀ i ∈ xs, -9223372036854775808 ≤ i ∧ i ≤ 9223372036854775807 := by
  obtain ⟨fuel, h⟩ := h
  rw [one_cell ho] at h
  exact Ints.open h hw
theorem Tabs.openT {v : Value} {d : DataW H} {ps : List MemPlace} (ho : ∃ a n c, v = .slice a n c) (h : DataW.Trod enc Tryd.prog W 0 (fun _ => true) true 24 v d ps) (hw : Light 24 d) :
    ∃ xs : List (List Int), Tabs W v xs ∧ ∀ r ∈ xs, ∀ i ∈ r, -9223372036854775808 ≤ i ∧ i ≤ 9223372036854775807 := by
  obtain ⟨fuel, h⟩ := h
  rw [one_cell ho] at h
  exact Tabs.open h hw
theorem u8.openT {v : Value} {d : DataW H} {ps : List MemPlace} (h : ∃ n, v = .int .u8 n ∧ d = .lit (.int .u8 n) ∧ ps = [] ∧ (Lit.int .u8 n).wf = true) : ∃ n : Int, v = .int .u8 n ∧ 0 ≤ n ∧ n ≤ 255 := by
  obtain ⟨n, rfl, _, _, hw⟩ := h
  have e1 : IntKind.u8.min = 0 := rfl
  have e2 : IntKind.u8.max = 255 := rfl
  simp only [Lit.wf, Bool.and_eq_true, decide_eq_true_eq] at hw
  exact ⟨n, rfl, by omega, by omega⟩
theorem int.openT {v : Value} {d : DataW H} {ps : List MemPlace} (h : ∃ n, v = .int .i64 n ∧ d = .lit (.int .i64 n) ∧ ps = [] ∧ (Lit.int .i64 n).wf = true) : ∃ n : Int, v = .int .i64 n ∧ -9223372036854775808 ≤ n ∧ n ≤ 9223372036854775807 := by
  obtain ⟨n, rfl, _, _, hw⟩ := h
  exact ⟨n, rfl, wf_range hw⟩
theorem again_all (hl : laidOutB Tryd.prog = true) {W' : World} (hb : Below W.heap.size W W') : ∀ {ts : List TypeId} {vs : List Value} {ds : List (DataW H)} {ps : List MemPlace},
    (ts.all fun t => Tryd.prog.readableRec t && decide (t < Tryd.prog.types.size)) = true → DataW.TrodAll enc Tryd.prog W 0 (fun _ => true) true ts vs ds ps → (∀ x ∈ ps, x.block < W.heap.size) →
    DataW.TrodAll enc Tryd.prog W' 0 (fun b => decide (b < W.heap.size)) true ts vs ds ps := by
  intro ts
  induction ts with
  | nil => intro vs ds ps _ h _; obtain ⟨rfl, rfl, rfl⟩ := Go.ChangeShapes.trodAll_nil h; rfl
  | cons t ts ih =>
    intro vs ds ps ht h hlt
    obtain ⟨v, vs', d, ds', p, q, rfl, rfl, rfl, h1, h2⟩ := Go.ChangeShapes.trodAll_cons h
    simp only [List.all_cons, Bool.and_eq_true, decide_eq_true_eq] at ht
    exact ⟨p, q, Below.trod hl ht.1.1 ht.1.2 h1 hb (fun x hx => hlt x (List.mem_append_left _ hx)), ih (by simpa using ht.2) h2 (fun x hx => hlt x (List.mem_append_right _ hx)), rfl⟩
end
end Go.Proofs.YtpknpbeiifjmgaaDoor
namespace Go.Proofs.YtpknpbeiifjmgaaDoor
theorem changeAndS {H : Type} {enc : TypeId × Value → H} {a : Assume} {C : Checked} {os : Os} {f : FuncId} {fn : Func} {s : ChangeSpec} {conds : List PathCond} {apart fresh handsOn again : Bool} {X : World → Array Value → Prop}
    (hX : ∀ (w w' : World) (args : Array Value), w.heap = w'.heap → X w args → X w' args)
    (own : ownKnob C.prog.godebug = none) (started : os.Started) (noInit : C.prog.inits.idxOf? f = none) (hfn : C.prog.funcs[f]? = some fn)
    (witness : ∃ (w : World) (tape : Tape) (i : Input), w.os = os ∧ (w.forCall tape i).Shaped C.prog ∧ i.vars = [] ∧ Input.okWide C.prog (w.forCall tape i) .any w.heap.size f i ∧
      ((s.pre enc C.prog fn conds apart (w.forCall tape i).memory i.args ∧ X (w.forCall tape i).memory i.args) ∧ sizedMet enc C.prog fn (OpenSpec.ofChange s) apart (w.forCall tape i).memory i.args) ∧ a.holds C.prog (lone (Frame.enter C.prog f i.args .normal) [] (w.forCall tape i)))
    (contract : ∀ (W : World) (base : Nat) (args : Array Value) (ds gs : List (DataW H)) (before : List MemPlace),
      (∀ (j : Nat) t v, fn.params[j]? = some t → args[j]? = some v → Value.okWide C.prog W .any base t v) →
      DataW.Whole enc C.prog fn.params.toList s.vars apart W args.toList ds gs before →
      conds.all (PathCond.test C.prog ⟨fn.params.toList, ds, s.plain.varTypes C.prog, gs⟩) = true →
      (DataW.weightsEach C.prog (fn.params.toList ++ s.plain.varTypes C.prog) (ds ++ gs)).all (· ≤ reachBytes) = true → X W args → W.ShapedOpen C.prog →
      a.holds C.prog (lone (Frame.enter C.prog f args .normal) [] W) →
      Calls C.prog f args W fun e W' => ∃ v, e = .returned v ∧ s.post enc C.prog fn apart fresh handsOn again W args v W') :
    ReturnsInHanded a C os f .any (fun w args => (s.pre enc C.prog fn conds apart w args ∧ X w args) ∧ sizedMet enc C.prog fn (OpenSpec.ofChange s) apart w args) (s.post enc C.prog fn apart fresh handsOn again) := by
  refine returnsInHanded_of_calls own started noInit witness ?_
  intro w tape i _ hsh _ hok hpre hholds
  obtain ⟨_, _, _, fn', hfn', _, _, _, _, hval⟩ := hok
  have e : fn' = fn := Option.some.inj (hfn'.symm.trans hfn)
  subst e
  obtain ⟨⟨⟨ds, gs, before, hw, hc⟩, hx⟩, hz⟩ := hpre
  have hw' := DataW.Whole.of_heap (w' := w.forCall tape i) (by rfl) hw
  refine (contract (w.forCall tape i) w.heap.size i.args ds gs before hval hw' hc (hz.weights hw) (hX _ _ _ (by rfl) hx) hsh hholds).mono fun e W' ⟨v, he, hp⟩ => ?_
  subst he
  exact ChangeSpec.post_blind hp
end Go.Proofs.YtpknpbeiifjmgaaDoor
