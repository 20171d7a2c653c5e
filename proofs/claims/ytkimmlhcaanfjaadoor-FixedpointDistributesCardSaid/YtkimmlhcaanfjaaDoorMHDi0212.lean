/-
  Part 12 of the proof: La02, Open, OpenV, Lw02, Ly02, Tbl. No statement of the seat is proved here.
-/
import Derived.Test.YtkimmlhcaanfjaaDoorMHDi0211
import Derived.ProofKit
import Derived.SizedLaws
import Derived.Deep.Strs
import Derived.LaidSub
import Derived.MakeChecks
import Derived.Lib.LaidTab
namespace Go.Proofs.YtkimmlhcaanfjaaDoor
open Go.RowKit
theorem exParse : prsR [49, 50, 46, 53, 112, 116] = (12500, 0) := by decide +kernel
theorem exPrint : prtR (-250) = ([45, 48, 46, 50, 53, 112, 116], 0) := by
  have e1 : Lib.itoa 0 = [48] := by
    have := itoa_pos 0
    rw [dec_small (by decide)] at this
    exact this
  have e2 : (Lib.itoa (1000 + 250)).drop 1 = [50, 53, 48] := by
    have := itoa_pos (1000 + 250)
    rw [show (1000 + 250 : Int) = ((1000 + 250 : Nat) : Int) from rfl, this, dec_four 250 (by decide)]
    rfl
  have h1 : prtL (-250) = ((if (-250 : Int) < 0 then [45] else []) ++ Lib.itoa (absI (-250) / 1000)) ++ prtF (absI (-250) % 1000) ++ [112, 116] := rfl
  have h2 : absI (-250) = 250 := by decide
  have h3 : prtF 250 = 46 :: Lib.trimRightB ((Lib.itoa (1000 + 250)).drop 1) 48 := if_pos (by decide)
  have h4 : (250 : Int) / 1000 = 0 := by decide
  have h5 : (250 : Int) % 1000 = 250 := by decide
  unfold prtR
  rw [if_neg (by decide), h1, h2, h4, h5, h3, e1, e2]
  rfl
theorem exScale : sclR 1000 2 3 = (667, 0) := by decide +kernel
theorem exDistE : dstE (-100) [1, 1, 1] = 0 := by decide +kernel
theorem exDist : dstL (-100) (sm [1, 1, 1]) [1, 1, 1] = [-34, -33, -33] := by decide +kernel
theorem exSum : sumR [1500, -200] = (1300, 0) := by decide +kernel
theorem exBad1 : badR 1000 2000 = 12 := by decide +kernel
theorem exBad2 : badR (-2000) 1000 = 800 := by decide +kernel
set_option maxRecDepth 100000 in
set_option maxHeartbeats 4000000 in
theorem awake02_sat (w : World) (hm : MxL w) (ht : TbL w) : SatV Tryd.prog 10 [] w (.bool true) := by
  have cP := fun w1 (hb : Below w.heap.size w w1) => Parse_sat [49, 50, 46, 53, 112, 116] w1 (hm.below hb)
  have cQ := fun w1 (hb : Below w.heap.size w w1) => Print_sat (-250) w1 (ht.below hb) (by decide) (by decide)
  have cS := fun w1 => Scale_sat 1000 2 3 w1 (by decide)
  have cB1 := fun w1 => Badness_sat 1000 2000 w1 (by decide) (by decide)
  have cB2 := fun w1 => Badness_sat (-2000) 1000 w1 (by decide) (by decide)
  rw [exParse] at cP
  rw [exPrint] at cQ
  rw [exScale] at cS
  rw [exBad1] at cB1
  rw [exBad2] at cB2
  refine SatL.of 73 [0] Tryd.func10 (by kernel_rfl) (by kernel_rfl) rfl rfl rfl rfl ?_
  repeat' (first|(apply OK_seq)|(apply thenQ_n)|(apply OK_region)|(apply OKx_gc 11;exact rfl; refine OKx_callV (f := 11) rfl rfl rfl (fun w1 hp => cP w1 hp.below) ?_)|(apply OKx_gc 13;exact rfl; refine OKx_callV (f := 13) rfl rfl rfl (fun w1 hp => cQ w1 hp.below) ?_)|(apply OKx_gc 20;exact rfl; refine OKx_callV (f := 20) rfl rfl rfl (fun w1 hp => cS w1) ?_)|(apply OKx_gc 22;exact rfl; refine OKx_call (f := 22) rfl rfl (fun w1 hp => Distribute_sat _ (-100) [1, 1, 1] w1 (hp.ints 0 rfl (by decide))) ?_; rintro _ _ (⟨h0, _⟩ | ⟨_, na, nc, rfl, rfl⟩) <;> first | exact absurd exDistE h0 | (rw [exDist]; rw [List.cons_append, List.nil_append]))|(apply OKx_gc 18;exact rfl; refine OKx_callV (f := 18) (v := .tuple #[.int .i64 1300, .int .i64 0]) rfl rfl rfl (fun w1 hp => by have := Sum_sat _ [1500, -200] w1 (hp.ints 0 rfl (by decide)); rwa [exSum] at this) ?_)|(apply OKx_gn; apply OKx_seql;exact rfl;exact rfl; all_goals (intro hs; first | (exfalso; exact hs rfl) | skip))|(apply OKx_gb; refine OKx_max5 (r := 0) rfl rfl rfl rfl rfl (by decide) ?_)|(apply OKx_gc 24;exact rfl; refine OKx_callV (f := 24) (v := .bool true) rfl rfl rfl (fun w1 hp => equalT_sat _ _ [-34, -33, -33] [-34, -33, -33] w1 (hp.ints 2 rfl (by decide)) (hp.ints 0 rfl (by decide)) rfl) ?_)|(apply OKx_gc 25;exact rfl; refine OKx_callV (f := 25) rfl rfl rfl (fun w1 hp => cB1 w1) ?_)|(apply OKx_gc 25;exact rfl; refine OKx_callV (f := 25) rfl rfl rfl (fun w1 hp => cB2 w1) ?_)|(apply OKx_gc 15;exact rfl; refine OKx_callV (f := 15) (v := .int .i64 2) rfl rfl rfl (fun w1 hp => chk_sat 2147483648 w1) ?_)|(apply OKx_nilK)|(apply OK_block)|(apply blockQ_n)|(apply blockQ_s)|(apply thenQ_e)|(apply blockQ_e;exact rfl)|(apply thenQ_r)|(apply blockQ_r)|(apply OK_condT;exact rfl)|(apply OK_condF;exact rfl)|(apply OK_skip)|(apply OK_exit)|(apply OK_ret)|(apply OKx_move;(conv=>lhs;whnf)<;>exact rfl)|(apply OKx_assign;(conv=>lhs;whnf)<;>exact rfl)|(apply OKx_eql;exact rfl;exact rfl;all_goals (intro _; try (exfalso;omega)))|(apply OKx_seql;exact rfl;exact rfl; all_goals intro _)|(apply OKx_max;exact rfl;exact rfl)|(apply OKx_pickT;exact rfl;(conv=>lhs;whnf)<;>exact rfl)|(apply OKx_pickF;exact rfl;(conv=>lhs;whnf)<;>exact rfl)|(apply OKx_guardT;exact rfl;exact rfl)|(apply OKx_guardF;exact rfl;exact rfl)|(apply OKx_guardU;exact rfl;exact rfl)|(apply OKx_extract;exact rfl;(conv=>lhs;whnf)<;>exact rfl)|(apply OKx_slit3;(conv=>lhs;whnf)<;>exact rfl;(conv=>lhs;whnf)<;>exact rfl;(conv=>lhs;whnf)<;>exact rfl;exact rfl;exact rfl;exact rfl;intro _)|(apply OKx_slit2;(conv=>lhs;whnf)<;>exact rfl;(conv=>lhs;whnf)<;>exact rfl;exact rfl;exact rfl;intro _))
  refine bodyQ_r1 (by ((conv=>lhs;whnf)<;>exact rfl)) ?_
  exact ⟨_, Ent.nil, rfl, rfl⟩
end Go.Proofs.YtkimmlhcaanfjaaDoor
namespace Go.Proofs.YtkimmlhcaanfjaaDoor
open Go.RowKit Go.Deep Go.WideShapes
section
variable {H : Type} {enc : TypeId × Value → H} {W : World}
def Light (t : TypeId) (d : DataW H) : Prop := ∀ n ∈ d.weights Tryd.prog t, n ≤ 140737488355328
theorem light_all {e : TypeId} {els : List (DataW H)} {d : DataW H} (hd : d ∈ els) {n : Nat} (hn : n ∈ d.weights Tryd.prog e) : n ∈ DataW.weightsAll Tryd.prog e els := by
  induction els with
  | nil => simp at hd
  | cons a r ih =>
    simp only [DataW.weightsAll, List.mem_append]
    rcases List.mem_cons.1 hd with rfl | h
    · exact .inl hn
    · exact .inr (ih h)
theorem light_slice {t e : TypeId} {els sp : List (DataW H)} (hu : Tryd.prog.underlying t = some (.slice e)) (h : Light t (.slice els sp)) : (els.length + sp.length) * Tryd.prog.bytesOf e ≤ 140737488355328 ∧ ∀ d ∈ els, Light e d := by
  unfold Light at *
  simp only [DataW.weights, hu] at h
  exact ⟨h _ (by simp), fun d hd n hn => h n (by simp [light_all hd hn])⟩
theorem light_each {ts : List TypeId} {ds : List (DataW H)} (h : (DataW.weightsEach Tryd.prog ts ds).all (· ≤ reachBytes) = true) (j : Nat) {t : TypeId} {d : DataW H} (h1 : ts[j]? = some t) (h2 : ds[j]? = some d) : Light t d := by
  intro n hn
  have : n ≤ reachBytes := by simpa using List.all_eq_true.1 h _ (DataW.weights_mem_each h1 h2 n hn)
  have r : reachBytes = 140737488351232 := rfl
  omega
theorem wf_range {z : Int} (h : (Lit.int .i64 z).wf = true) : -9223372036854775808 ≤ z ∧ z ≤ 9223372036854775807 := by
  have e1 : IntKind.i64.min = -9223372036854775808 := rfl
  have e2 : IntKind.i64.max = 9223372036854775807 := rfl
  simp only [Lit.wf, Bool.and_eq_true, decide_eq_true_eq] at h
  omega
theorem open_sl2 {t e : TypeId} {fuel sz : Nat} {v : Value} {x : DataW H × List MemPlace} (ht : Tryd.prog.underlying t = some (.slice e)) (hc : Tryd.prog.cellsOf e = sz) (hsz : 0 < sz) (hb : 0 < Tryd.prog.bytesOf e)
    (h : DataW.trod enc Tryd.prog W 0 (fun _ => true) true fuel t [v] = some x) (hw : Light t x.1) :
    ∃ (n m : Nat) (C : Nat → List Value) (D : Nat → DataW H) (Q : Nat → List MemPlace), Sl2 W v sz n (fun j c => (C j).getD c undef) ∧ (∀ a k c, v = .slice a k c → k ≤ c) ∧
      ∀ i, i < n → (C i).length = sz ∧ DataW.trod enc Tryd.prog W 0 (fun _ => true) true m e (C i) = some (D i, Q i) ∧ Light e (D i) := by
  rcases open_slice ht h with ⟨h1, h2⟩ | ⟨a, len, cap, m, n, D, Q, h1, _, hl, hm, hmm, rfl, hx⟩
  · simp only [List.cons.injEq, and_true] at h1
    subst h1; subst h2
    refine ⟨0, 0, fun _ => [], fun _ => .nil, fun _ => [], ⟨by omega, none, 0, rfl, .inl rfl⟩, ?_, fun i hi => absurd hi (by omega)⟩
    intro a k c e
    cases e; exact Nat.le_refl _
  · simp only [List.cons.injEq, and_true] at h1
    subst h1
    simp only [if_true] at hmm
    subst hmm
    obtain ⟨hw1, hw2⟩ := light_slice ht hw
    rw [hc] at hx
    have hx' : ∀ i, i < len → ∃ cs', W.cells? 0 (a.add (i * sz)) sz = some cs' ∧ DataW.trod enc Tryd.prog W 0 (fun _ => true) true n e cs' = some (D i, Q i) := fun i hi => hx i (by omega)
    obtain ⟨C, hC⟩ := choose_lt (α := List Value) hx'
    have hlen : len ≤ 140737488355328 := by
      have : len * 1 ≤ len * Tryd.prog.bytesOf e := Nat.mul_le_mul_left _ hb
      simp only [List.length_map, List.length_range] at hw1
      have h3 : len * Tryd.prog.bytesOf e ≤ (len + (m - len)) * Tryd.prog.bytesOf e := Nat.mul_le_mul_right _ (by omega)
      omega
    refine ⟨len, n, C, D, Q, ⟨hlen, some a, m, rfl, ?_⟩, ?_, fun i hi => ?_⟩
    · by_cases h0 : len = 0
      · exact .inl h0
      right
      obtain ⟨b, off, spot⟩ := a
      have hs : spot = none := by
        obtain ⟨_, h4, h5⟩ := World.cells?_some (hC 0 (by omega)).1
        have h6 := h5 0 hsz
        obtain ⟨u, hu⟩ : ∃ u, (C 0)[0]? = some u := ⟨_, List.getElem?_eq_getElem (by omega)⟩
        rw [hu] at h6
        simpa [Addr.add] using World.cell?_spot h6
      subst hs
      refine ⟨b, off, rfl, fun j hj c hcs => ?_⟩
      obtain ⟨_, h4, h5⟩ := World.cells?_some (hC j hj).1
      have h6 := h5 c hcs
      rw [add_plain, add_plain] at h6
      rw [h6]
      simp [h4, hcs]
    · intro a' k c e
      cases e; exact hl
    · obtain ⟨_, h4, h5⟩ := World.cells?_some (hC i hi).1
      refine ⟨h4, (hC i hi).2, hw2 _ ?_⟩
      exact List.mem_map.2 ⟨i, List.mem_range.2 hi, rfl⟩
theorem Sl2.flat {v : Value} {sz n : Nat} {g : Nat → Nat → Value} (h : Sl2 W v sz n g) (hr : ∀ a k c, v = .slice a k c → k ≤ c) (f : Nat → Value) (hf : ∀ j, j < n → ∀ c, c < sz → f (j * sz + c) = g j c) (hsz : 0 < sz) : Sl W v sz n f := by
  obtain ⟨h1, a, cap, rfl, h2⟩ := h
  refine ⟨h1, ⟨a, cap, rfl, ?_⟩, hr⟩
  rcases h2 with h0 | ⟨b, off, ha, hc⟩
  · exact .inl h0
  refine .inr ⟨b, off, ha, fun j hj => ?_⟩
  have h3 := Nat.div_add_mod j sz
  have h4 := Nat.mod_lt j hsz
  have h5 : j / sz < n := (Nat.div_lt_iff_lt_mul hsz).2 hj
  have h6 := hc (j / sz) h5 (j % sz) h4
  have h7 := hf (j / sz) h5 (j % sz) h4
  have h8 : j / sz * sz + j % sz = j := by rw [Nat.mul_comm]; exact h3
  rw [Nat.add_assoc, h8] at h6
  rw [h8] at h7
  rw [h6, h7]
theorem open_sl {t e : TypeId} {fuel : Nat} {v : Value} {x : DataW H × List MemPlace} (ht : Tryd.prog.underlying t = some (.slice e)) (hc : Tryd.prog.cellsOf e = 1) (hb : 0 < Tryd.prog.bytesOf e)
    (h : DataW.trod enc Tryd.prog W 0 (fun _ => true) true fuel t [v] = some x) (hw : Light t x.1) :
    ∃ (n m : Nat) (V : Nat → Value) (D : Nat → DataW H) (Q : Nat → List MemPlace), Sl W v 1 n V ∧
      ∀ i, i < n → DataW.trod enc Tryd.prog W 0 (fun _ => true) true m e [V i] = some (D i, Q i) ∧ Light e (D i) := by
  obtain ⟨n, m, C, D, Q, h1, h2, h3⟩ := open_sl2 ht hc (by decide) hb h hw
  refine ⟨n, m, fun j => (C j).getD 0 undef, D, Q, h1.flat h2 _ (fun j hj c hcs => ?_) (by decide), fun i hi => ?_⟩
  · obtain rfl : c = 0 := by omega
    simp
  · obtain ⟨h4, h5, h6⟩ := h3 i hi
    refine ⟨?_, h6⟩
    match hCi : C i, h4 with
    | [u], _ => rw [hCi] at h5; simpa [hCi] using h5
theorem range_getD {α : Type} (n : Nat) (f : Nat → α) (d : α) (j : Nat) (h : j < n) : ((List.range n).map f).getD j d = f j := by simp [h]
theorem Ints.open {fuel : Nat} {v : Value} {x : DataW H × List MemPlace} (h : DataW.trod enc Tryd.prog W 0 (fun _ => true) true fuel 30 [v] = some x) (hw : Light 30 x.1) :
    ∃ xs : List Int, Ints W v xs ∧ ∀ i ∈ xs, -9223372036854775808 ≤ i ∧ i ≤ 9223372036854775807 := by
  obtain ⟨n, m, V, D, Q, h1, h2⟩ := open_sl Tryd.underlying30 (by kernel_rfl) (of_decide_eq_true (by kernel_rfl)) h hw
  obtain ⟨Z, hZ⟩ := choose_lt (α := Int) (p := fun i z => V i = .int .i64 z ∧ -9223372036854775808 ≤ z ∧ z ≤ 9223372036854775807) (fun i hi => by
    obtain ⟨z, h4, _, h5⟩ := DataW.trod_int Tryd.underlying3 (h2 i hi).1
    refine ⟨z, by simpa using h4, ?_⟩
    have e1 : IntKind.i64.min = -9223372036854775808 := rfl
    have e2 : IntKind.i64.max = 9223372036854775807 := rfl
    simp only [Lit.wf, Bool.and_eq_true, decide_eq_true_eq] at h5
    omega)
  refine ⟨(List.range n).map Z, ?_, ?_⟩
  · unfold Ints
    rw [List.length_map, List.length_range]
    exact h1.congr fun j hj => (hZ j (by omega)).1.trans (by rw [range_getD _ _ _ _ (by omega)])
  · intro i hi
    obtain ⟨j, hj, rfl⟩ := List.mem_map.1 hi
    exact (hZ j (List.mem_range.1 hj)).2
end
section
variable {H : Type} {enc : TypeId × Value → H} {W : World}
theorem one_cell {v : Value} (ho : ∃ a n c, v = .slice a n c) : v.cells.toList = [v] := by obtain ⟨a, n, c, rfl⟩ := ho; rfl
theorem Ints.openT {v : Value} {d : DataW H} {ps : List MemPlace} (ho : ∃ a n c, v = .slice a n c) (h : DataW.Trod enc Tryd.prog W 0 (fun _ => true) true 30 v d ps) (hw : Light 30 d) :
    ∃ xs : List Int, Ints W v xs ∧ ∀ i ∈ xs, -9223372036854775808 ≤ i ∧ i ≤ 9223372036854775807 := by
  obtain ⟨fuel, h⟩ := h
  rw [one_cell ho] at h
  exact Ints.open h hw
theorem u8.openT {v : Value} {d : DataW H} {ps : List MemPlace} (h : ∃ n, v = .int .u8 n ∧ d = .lit (.int .u8 n) ∧ ps = [] ∧ (Lit.int .u8 n).wf = true) : ∃ n : Int, v = .int .u8 n ∧ 0 ≤ n ∧ n ≤ 255 := by
  obtain ⟨n, rfl, _, _, hw⟩ := h
  have e1 : IntKind.u8.min = 0 := rfl
  have e2 : IntKind.u8.max = 255 := rfl
  simp only [Lit.wf, Bool.and_eq_true, decide_eq_true_eq] at hw
  exact ⟨n, rfl, by omega, by omega⟩
theorem int.openT {v : Value} {d : DataW H} {ps : List MemPlace} (h : ∃ n, v = .int .i64 n ∧ d = .lit (.int .i64 n) ∧ ps = [] ∧ (Lit.int .i64 n).wf = true) : ∃ n : Int, v = .int .i64 n ∧ -9223372036854775808 ≤ n ∧ n ≤ 9223372036854775807 := by
  obtain ⟨n, rfl, _, _, hw⟩ := h
  exact ⟨n, rfl, wf_range hw⟩
theorem again_all (hl : laidOutB Tryd.prog = true) {W' : World} (hb : Below W.heap.size W W') : ∀ {ts : List TypeId} {vs : List Value} {ds : List (DataW H)} {ps : List MemPlace},
    (ts.all fun t => Tryd.prog.readableRec t && decide (t < Tryd.prog.types.size)) = true → DataW.TrodAll enc Tryd.prog W 0 (fun _ => true) true ts vs ds ps → (∀ x ∈ ps, x.block < W.heap.size) →
    DataW.TrodAll enc Tryd.prog W' 0 (fun b => decide (b < W.heap.size)) true ts vs ds ps := by
  intro ts
  induction ts with
  | nil => intro vs ds ps _ h _; obtain ⟨rfl, rfl, rfl⟩ := Go.ChangeShapes.trodAll_nil h; rfl
  | cons t ts ih =>
    intro vs ds ps ht h hlt
    obtain ⟨v, vs', d, ds', p, q, rfl, rfl, rfl, h1, h2⟩ := Go.ChangeShapes.trodAll_cons h
    simp only [List.all_cons, Bool.and_eq_true, decide_eq_true_eq] at ht
    exact ⟨p, q, Below.trod hl ht.1.1 ht.1.2 h1 hb (fun x hx => hlt x (List.mem_append_left _ hx)), ih (by simpa using ht.2) h2 (fun x hx => hlt x (List.mem_append_right _ hx)), rfl⟩
end
end Go.Proofs.YtkimmlhcaanfjaaDoor
namespace Go.Proofs.YtkimmlhcaanfjaaDoor
open Go.RowKit Go.Deep Go.WideShapes
def I32s (w : World) (v : Value) (xs : List Int) : Prop := Sl w v 1 xs.length (fun j => .int .i32 (xs.getD j 0))
def U32s (w : World) (v : Value) (xs : List Int) : Prop := Sl w v 1 xs.length (fun j => .int .u32 (xs.getD j 0))
section
variable {H : Type} {enc : TypeId × Value → H} {W : World}
theorem I32s.openT {v : Value} {d : DataW H} {ps : List MemPlace} (ho : ∃ a n c, v = .slice a n c) (h : DataW.Trod enc Tryd.prog W 0 (fun _ => true) true 45 v d ps) (hw : Light 45 d) :
    ∃ xs : List Int, I32s W v xs ∧ ∀ i ∈ xs, -2147483648 ≤ i ∧ i ≤ 2147483647 := by
  obtain ⟨fuel, h⟩ := h
  rw [one_cell ho] at h
  obtain ⟨n, m, V, D, Q, h1, h2⟩ := open_sl Tryd.underlying45 (by kernel_rfl) (of_decide_eq_true (by kernel_rfl)) h hw
  obtain ⟨Z, hZ⟩ := choose_lt (α := Int) (p := fun i z => V i = .int .i32 z ∧ -2147483648 ≤ z ∧ z ≤ 2147483647) (fun i hi => by
    obtain ⟨z, h4, _, h5⟩ := DataW.trod_int Tryd.underlying21 (h2 i hi).1
    refine ⟨z, by simpa using h4, ?_⟩
    have e1 : IntKind.i32.min = -2147483648 := rfl
    have e2 : IntKind.i32.max = 2147483647 := rfl
    simp only [Lit.wf, Bool.and_eq_true, decide_eq_true_eq] at h5
    omega)
  refine ⟨(List.range n).map Z, ?_, ?_⟩
  · unfold I32s
    rw [List.length_map, List.length_range]
    exact h1.congr fun j hj => (hZ j (by omega)).1.trans (by rw [range_getD _ _ _ _ (by omega)])
  · intro i hi
    obtain ⟨j, hj, rfl⟩ := List.mem_map.1 hi
    exact (hZ j (List.mem_range.1 hj)).2
theorem U32s.openT {v : Value} {d : DataW H} {ps : List MemPlace} (ho : ∃ a n c, v = .slice a n c) (h : DataW.Trod enc Tryd.prog W 0 (fun _ => true) true 43 v d ps) (hw : Light 43 d) :
    ∃ xs : List Int, U32s W v xs ∧ ∀ i ∈ xs, 0 ≤ i ∧ i ≤ 4294967295 := by
  obtain ⟨fuel, h⟩ := h
  rw [one_cell ho] at h
  obtain ⟨n, m, V, D, Q, h1, h2⟩ := open_sl Tryd.underlying43 (by kernel_rfl) (of_decide_eq_true (by kernel_rfl)) h hw
  obtain ⟨Z, hZ⟩ := choose_lt (α := Int) (p := fun i z => V i = .int .u32 z ∧ 0 ≤ z ∧ z ≤ 4294967295) (fun i hi => by
    obtain ⟨z, h4, _, h5⟩ := DataW.trod_int Tryd.underlying40 (h2 i hi).1
    refine ⟨z, by simpa using h4, ?_⟩
    have e1 : IntKind.u32.min = 0 := rfl
    have e2 : IntKind.u32.max = 4294967295 := rfl
    simp only [Lit.wf, Bool.and_eq_true, decide_eq_true_eq] at h5
    omega)
  refine ⟨(List.range n).map Z, ?_, ?_⟩
  · unfold U32s
    rw [List.length_map, List.length_range]
    exact h1.congr fun j hj => (hZ j (by omega)).1.trans (by rw [range_getD _ _ _ _ (by omega)])
  · intro i hi
    obtain ⟨j, hj, rfl⟩ := List.mem_map.1 hi
    exact (hZ j (List.mem_range.1 hj)).2
end
end Go.Proofs.YtkimmlhcaanfjaaDoor
namespace Go.Proofs.YtkimmlhcaanfjaaDoor
open Go.RowKit
section
variable {P : Program} {n : Nat} {w0 : World} {K : Fm → List Res → Prop} {F : Fm} {L : List Res} {m : Md} {ops : Array Oper} {rest : List Oper} {d : Option Nat} {ty : TypeId} {pos : String} {aft : Array Edge}
theorem OKx_worldL {Lw : List Res} (h : ∀ w, Hp w0.heap.size w0 w L → OKx P n w0 (.seq Lw) ops K rest F L) : OKx P n w0 (.seq Lw) ops K rest F L := by
  unfold OKx
  intro w a hf hp
  exact (h w hp).use w a hf hp
theorem OKx_slHo {t e sz bytes : Nat} {z : Value} [T : TSlice P t e sz bytes z] {x hi : Operand} {a : Option Addr} {len cap h : Nat} {k : IntKind} (hx : rv n F x = .slice a len cap) (hh : rv n F hi = .int k (h : Int)) (h1 : h ≤ cap)
    (kk : OKx P n w0 m ops K rest (updo F d (.slice a h cap)) L) : OKx P n w0 m ops K (⟨d, .slice t x none (some hi) none, ty, pos, aft, none⟩ :: rest) F L :=
  OKx_still (fun w _ _ _ _ _ => run_sl T hx w _ _ _ _ (by
    have := run_slice_h (P := P) (w := w) t a len cap T.und' k (h : Int) (by omega) (by omega)
    rw [T.elem, T.size] at this
    simp only [Option.map_none, Option.map_some, hh, this, Result.andThen, sliced, Int.toNat_natCast, Nat.zero_mul, Nat.sub_zero]
    cases a <;> simp [Addr.add])) kk
end
theorem Sl.headPart {w : World} {a : Option Addr} {n cap h sz : Nat} {f : Nat → Value} (hs : Sl w (.slice a n cap) sz n f) (hh : h ≤ n) : Sl w (.slice a h cap) sz h f := by
  have hr := hs.room _ _ _ rfl
  obtain ⟨a', c', hv, hc⟩ := hs.out
  simp only [Value.slice.injEq] at hv
  obtain ⟨rfl, _, rfl⟩ := hv
  refine ⟨by have := hs.len;omega, ⟨a, cap, rfl, ?_⟩, fun a1 m c hv => by simp only [Value.slice.injEq] at hv;omega⟩
  by_cases h0 : h = 0
  · exact .inl h0
  · rcases hc with hc | ⟨b, off, ha, hc⟩
    · omega
    · exact .inr ⟨b, off, ha, fun j hj => hc j (by have := Nat.mul_le_mul_right sz hh;omega)⟩
def lnL (xs : List Int) : List Int := (xs.take 20).map (fun x => x.tmod 1048576)
theorem lnL_len (xs : List Int) : (lnL xs).length = min 20 xs.length := by simp [lnL]
theorem tmod_bd (x : Int) {b : Int} (hb : 0 < b) : -b < x.tmod b ∧ x.tmod b < b := ⟨Int.lt_tmod_of_pos x hb, Int.tmod_lt_of_pos x hb⟩
theorem lnL_take (xs : List Int) (k : Nat) (hk : k < (lnL xs).length) : (lnL xs).take (k + 1) = (lnL xs).take k ++ [(xs.getD k 0).tmod 1048576] := by
  have hl := lnL_len xs
  rw [List.take_add_one, List.getElem?_eq_getElem hk]
  congr 1
  simp only [lnL, List.getElem_map, List.getElem_take, Option.toList_some]
  rw [getD_lt _ _ _ (by omega)]
end Go.Proofs.YtkimmlhcaanfjaaDoor
namespace Go.Proofs.YtkimmlhcaanfjaaDoor
open Go.RowKit
theorem ediv_bd {x s B : Int} (hs : 1 ≤ s) (h1 : -B ≤ x) (h2 : x ≤ B) : -B ≤ x / s ∧ x / s ≤ B := by
  constructor
  · by_cases hx : 0 ≤ x
    · have := Int.ediv_nonneg hx (by omega : 0 ≤ s);omega
    · refine Int.le_ediv_of_mul_le (by omega) ?_
      have := Int.mul_le_mul_of_nonneg_left hs (show (0 : Int) ≤ B by omega)
      rw [Int.mul_one] at this
      rw [Int.neg_mul]
      omega
  · by_cases hx : 0 ≤ x
    · have := Int.ediv_le_self (b := s) hx;omega
    · have := Int.ediv_neg_of_neg_of_pos (by omega : x < 0) (by omega : 0 < s);omega
theorem dstL_take (t s : Int) (ps : List Int) (k : Nat) (hk : k ≤ ps.length) : sm ((dstL t s ps).take k) = t * sm (ps.take k) / s := by
  have e : (dstL t s ps).take k = (List.range k).map (dstX t s ps) := by
    unfold dstL
    rw [← List.map_take, List.take_range, Nat.min_eq_left hk]
  rw [e, dstL_sum]
theorem takeI_snoc (l : List Int) (i : Nat) (h : i < l.length) : l.take (i + 1) = l.take i ++ [l.getD i 0] := by
  rw [List.take_add_one, List.getElem?_eq_getElem h, List.getD_eq_getElem?_getD, List.getElem?_eq_getElem h]
  rfl
set_option maxRecDepth 100000 in
set_option maxHeartbeats 4000000 in
theorem FixedpointDistributes_sat (v : Value) (t : Int) (xs : List Int) (w : World) (h0 : -2147483648 ≤ t ∧ t ≤ 2147483647) (h : U32s w v xs) (hx : ∀ i ∈ xs, 0 ≤ i ∧ i ≤ 4294967295) (hm : MxL w) (ht : TbL w) :
    SatV Tryd.prog 8 [.int .i32 t, v] w (.bool true) := by
  have wn : IntKind.i64.wrap t = t := wrapI _ (by omega)
  have hna := tmod_bd t (b := 1048576) (by decide)
  obtain ⟨n, hn⟩ : ∃ n, n = t.tmod 1048576 := ⟨_, rfl⟩
  rw [← hn] at hna
  obtain ⟨a, cap, rfl, _⟩ := h.out
  have hcap := h.room _ _ _ rfl
  have hb := h.len
  have hl := lnL_len xs
  obtain ⟨N, hN⟩ : ∃ N, N = (lnL xs).length := ⟨_, rfl⟩
  have hNl : N ≤ xs.length ∧ N ≤ 20 := by omega
  have hp := Sl.headPart h hNl.1
  have hmin : min (xs.length : Int) 20 = (N : Int) := by omega
  have hs := h
  have hst := fun k hk => lnL_take xs k (by rw [← hN]; exact hk)
  have hM0 : ∀ x ∈ lnL xs, 0 ≤ x ∧ x ≤ 1048576 := by
    intro x hx'
    obtain ⟨y, hy, rfl⟩ := List.mem_map.1 hx'
    have h1 := tmod_bd y (b := 1048576) (by decide)
    have h2 := Int.tmod_nonneg (a := y) 1048576 (hx y (List.mem_of_mem_take hy)).1
    omega
  have hMall : ∀ x ∈ lnL xs, 0 ≤ x ∧ x ≤ 1073741824 := fun x hx => by have := hM0 x hx;omega
  have hsb := sm_bd (lnL xs) 1048576 (fun x hx => by have := hM0 x hx;omega)
  have hsb2 : ((lnL xs).length : Int) * 1048576 ≤ 20 * 1048576 := Int.mul_le_mul_of_nonneg_right (by omega) (by decide)
  have hs0 := sm_nonneg (lnL xs) fun x hx => (hM0 x hx).1
  have hE := dstE_good (t := n) (ps := lnL xs) (by omega) (chk2_of (by omega) (by omega)) hMall
  rw [if_neg (by omega)] at hE
  have htk := fun k => dstX_take_le (ps := lnL xs) hMall k
  have hsm := fun k hk => sm_take (lnL xs) k (by rw [← hN]; exact hk)
  have hgd : ∀ k, k < N → (lnL xs).getD k 0 = (xs.getD k 0).tmod 1048576 := fun k hk => by
    have := hst k hk
    rw [takeI_snoc (lnL xs) k (by omega)] at this
    exact List.singleton_inj.1 (List.append_cancel_left this)
  have hgb : ∀ k, k < N → 0 ≤ (lnL xs).getD k 0 ∧ (lnL xs).getD k 0 ≤ 1048576 := fun k hk => hM0 _ (by rw [getD_lt _ _ _ (by omega)]; exact List.getElem_mem (by omega))
  generalize hM : lnL xs = M at *
  refine SatL.of 115 [4] Tryd.func8 (by kernel_rfl) (by kernel_rfl) rfl rfl rfl rfl ?_
  repeat' (first|(apply OK_seq)|(apply thenQ_n)|(apply OK_region)|(refine OKx_convK (r := t) rfl rfl Tryd.underlying3 wn ?_)|(apply OKx_gn; refine OKx_rem rfl rfl (by decide) ?_; rw [← hn])|(apply OKx_gb; refine OKx_min rfl rfl ?_; rw [hmin])|(refine OKx_slHo rfl rfl (by omega) ?_)|(apply OKx_nilK)|(apply OK_block)|(apply blockQ_n)|(apply blockQ_s)|(apply thenQ_e)|(apply blockQ_e;exact rfl)|(apply thenQ_r)|(apply blockQ_r)|(apply OK_condT;exact rfl)|(apply OK_condF;exact rfl)|(apply OK_skip)|(apply OK_exit)|(apply OK_ret)|(apply OKx_move;(conv=>lhs;whnf)<;>exact rfl)|(apply OKx_assign;(conv=>lhs;whnf)<;>exact rfl)|(apply OKx_ldB;exact rfl;(first | exact at0|exact at1|exact at2|exact at3|exact at4|exact at5|exact at6|exact at7);exact rfl)|(apply OKx_ldR;(conv=>lhs;whnf)<;>exact rfl;(with_reducible assumption))|(apply OKx_ldI;exact rfl;(first | exact at0|exact at1|exact at2|exact at3|exact at4|exact at5|exact at6|exact at7);omega)|(apply OKx_len;exact rfl)|(apply OKx_lenR;(conv=>lhs;whnf)<;>exact rfl;(with_reducible assumption))|(apply OKx_lenR2;(conv=>lhs;whnf)<;>exact rfl;(with_reducible assumption))|(apply OKx_lenO;(conv=>lhs;whnf)<;>exact rfl;(first | exact at0|exact at1|exact at2|exact at3|exact at4|exact at5|exact at6|exact at7))|(apply OKx_lss;exact rfl;exact rfl;all_goals (intro _; try (exfalso;omega)))|(apply OKx_leq;exact rfl;exact rfl;all_goals (intro _; try (exfalso;omega)))|(apply OKx_geq;exact rfl;exact rfl;all_goals (intro _; try (exfalso;omega)))|(apply OKx_eql;exact rfl;exact rfl;all_goals (intro _; try (exfalso;omega)))|(apply OKx_neq;exact rfl;exact rfl;all_goals (intro _; try (exfalso;omega)))|(apply OKx_idxO;exact rfl;exact rfl;omega)|(apply OKx_idxR;(conv=>lhs;whnf)<;>exact rfl;(with_reducible assumption);exact rfl;omega;intro _ _)|(apply OKx_idxOz;exact rfl;exact rfl;omega;omega)|(apply OKx_idxRz;(conv=>lhs;whnf)<;>exact rfl;(with_reducible assumption);exact rfl;omega;omega;intro _ _)|(apply OKx_inc;exact rfl;exact rfl;omega)|(apply OKx_addN;exact rfl;exact rfl;omega)|(apply OKx_add;exact rfl;exact rfl;omega;omega)|(apply OKx_dec;exact rfl;exact rfl;omega;omega)|(apply OKx_subN;exact rfl;exact rfl;omega;omega)|(apply OKx_sub;exact rfl;exact rfl;omega;omega)|(apply OKx_min;exact rfl;exact rfl)|(apply OKx_pickT;exact rfl;(conv=>lhs;whnf)<;>exact rfl)|(apply OKx_pickF;exact rfl;(conv=>lhs;whnf)<;>exact rfl)|(apply OKx_guardT;exact rfl;exact rfl)|(apply OKx_guardF;exact rfl;exact rfl)|(apply OKx_guardU;exact rfl;exact rfl)|(apply OKx_notT;exact rfl)|(apply OKx_notF;exact rfl)|(apply OKx_extract;exact rfl;(conv=>lhs;whnf)<;>exact rfl)|(apply OKx_slit1;(conv=>lhs;whnf)<;>exact rfl;exact rfl;intro _))
  refine OK_loop3 6 7 25 [6, 7, 9, 25, 26, 27, 28, 29, 30, 31, 32, 33, 34, 35, 36, 37, 38, 39, 40] (fun m u1 u2 v L => ∃ (k : Nat) (na : Option Addr) (nc : Nat), k + m = N ∧ u1 = .slice na k nc ∧ u2 = .int .i64 (sm (M.take k)) ∧ v = .int .i64 (k : Int) ∧ L = [.row 3 1 (.slice na k nc) k (ints (M.take k))]) N _ (Ent.mk fun w1 hp => hp.nil 3 1) ⟨0, none, 0, by omega, rfl, rfl, rfl, rfl⟩ ?_
  rintro m u1 u2 v L G ⟨k, na, nc, hm', rfl, rfl, rfl, rfl⟩
  by_cases hk : k < N
  · have h1 := hst k hk
    have h2 := hsm k hk
    have h3 := htk k
    have h4 := hgd k hk
    have h5 := hgb k hk
    have hxk := hx (xs.getD k 0) (by rw [getD_lt _ _ _ (by omega)]; exact List.getElem_mem (by omega))
    rw [h4] at h2 h5
    repeat' (first|(apply OK_seq)|(apply thenQ_n)|(apply OK_region)|(apply OKx_gn; refine OKx_rem rfl rfl (by decide) ?_)|(refine OKx_convK (r := xs.getD k 0) rfl rfl Tryd.underlying3 (wrapI _ (by omega)) ?_)|(apply OKx_gb; refine OKx_appI 1 0 rfl rfl rfl rfl (by omega) (by omega) ?_; intro g5 c5)|(apply OKx_gn; refine OKx_add rfl rfl (by omega) (by omega) ?_)|(apply OKx_nilK)|(apply OK_block)|(apply blockQ_n)|(apply blockQ_s)|(apply thenQ_e)|(apply blockQ_e;exact rfl)|(apply thenQ_r)|(apply blockQ_r)|(apply OK_condT;exact rfl)|(apply OK_condF;exact rfl)|(apply OK_skip)|(apply OK_exit)|(apply OK_ret)|(apply OKx_move;(conv=>lhs;whnf)<;>exact rfl)|(apply OKx_assign;(conv=>lhs;whnf)<;>exact rfl)|(apply OKx_ldB;exact rfl;(first | exact at0|exact at1|exact at2|exact at3|exact at4|exact at5|exact at6|exact at7);exact rfl)|(apply OKx_ldR;(conv=>lhs;whnf)<;>exact rfl;(with_reducible assumption))|(apply OKx_ldI;exact rfl;(first | exact at0|exact at1|exact at2|exact at3|exact at4|exact at5|exact at6|exact at7);omega)|(apply OKx_len;exact rfl)|(apply OKx_lenR;(conv=>lhs;whnf)<;>exact rfl;(with_reducible assumption))|(apply OKx_lenR2;(conv=>lhs;whnf)<;>exact rfl;(with_reducible assumption))|(apply OKx_lenO;(conv=>lhs;whnf)<;>exact rfl;(first | exact at0|exact at1|exact at2|exact at3|exact at4|exact at5|exact at6|exact at7))|(apply OKx_lss;exact rfl;exact rfl;all_goals (intro _; try (exfalso;omega)))|(apply OKx_leq;exact rfl;exact rfl;all_goals (intro _; try (exfalso;omega)))|(apply OKx_geq;exact rfl;exact rfl;all_goals (intro _; try (exfalso;omega)))|(apply OKx_eql;exact rfl;exact rfl;all_goals (intro _; try (exfalso;omega)))|(apply OKx_neq;exact rfl;exact rfl;all_goals (intro _; try (exfalso;omega)))|(apply OKx_idxO;exact rfl;exact rfl;omega)|(apply OKx_idxR;(conv=>lhs;whnf)<;>exact rfl;(with_reducible assumption);exact rfl;omega;intro _ _)|(apply OKx_idxOz;exact rfl;exact rfl;omega;omega)|(apply OKx_idxRz;(conv=>lhs;whnf)<;>exact rfl;(with_reducible assumption);exact rfl;omega;omega;intro _ _)|(apply OKx_inc;exact rfl;exact rfl;omega)|(apply OKx_addN;exact rfl;exact rfl;omega)|(apply OKx_add;exact rfl;exact rfl;omega;omega)|(apply OKx_dec;exact rfl;exact rfl;omega;omega)|(apply OKx_subN;exact rfl;exact rfl;omega;omega)|(apply OKx_sub;exact rfl;exact rfl;omega;omega)|(apply OKx_min;exact rfl;exact rfl)|(apply OKx_pickT;exact rfl;(conv=>lhs;whnf)<;>exact rfl)|(apply OKx_pickF;exact rfl;(conv=>lhs;whnf)<;>exact rfl)|(apply OKx_guardT;exact rfl;exact rfl)|(apply OKx_guardF;exact rfl;exact rfl)|(apply OKx_guardU;exact rfl;exact rfl)|(apply OKx_notT;exact rfl)|(apply OKx_notF;exact rfl)|(apply OKx_extract;exact rfl;(conv=>lhs;whnf)<;>exact rfl)|(apply OKx_slit1;(conv=>lhs;whnf)<;>exact rfl;exact rfl;intro _))
    refine ⟨by (repeat' (first | refine agree_upd rfl ?_ | exact agree_over | exact agree_refl _ _ | refine agree_over2 rfl ?_)), m - 1, _, by omega, Ent.pick [1] rfl, ?_⟩
    exact ⟨k + 1, _, c5, by omega, rfl, int_eq h2.symm, rfl, by rw [h1]; rfl⟩
  obtain rfl : k = N := by omega
  have eM : M.take k = M := by rw [hN, List.take_length]
  rw [eM]
  by_cases hz : sm M = 0
  · rw [if_pos hz] at hE
    rw [hz]
    repeat' (first|(apply OK_seq)|(apply thenQ_n)|(apply OK_region)|(apply OKx_gc 22;exact rfl; refine OKx_call (f := 22) rfl rfl (fun w1 hp => Distribute_sat _ n M w1 (hp.ints (xs := M) 0 rfl (by omega))) ?_; rintro _ _ (⟨_, rfl, rfl⟩ | ⟨h9, _⟩) <;> first | (exfalso; rw [hE] at h9; exact absurd h9 (by decide)) | (rw [hE]; rw [List.nil_append]))|(apply OKx_gc 10;exact rfl; refine OKx_callV (f := 10) rfl rfl rfl (fun w1 hp => awake02_sat w1 (hm.below hp.below) (ht.below hp.below)) ?_)|(apply OKx_nilK)|(apply OK_block)|(apply blockQ_n)|(apply blockQ_s)|(apply thenQ_e)|(apply blockQ_e;exact rfl)|(apply thenQ_r)|(apply blockQ_r)|(apply OK_condT;exact rfl)|(apply OK_condF;exact rfl)|(apply OK_skip)|(apply OK_exit)|(apply OK_ret)|(apply OKx_move;(conv=>lhs;whnf)<;>exact rfl)|(apply OKx_assign;(conv=>lhs;whnf)<;>exact rfl)|(apply OKx_ldB;exact rfl;(first | exact at0|exact at1|exact at2|exact at3|exact at4|exact at5|exact at6|exact at7);exact rfl)|(apply OKx_ldR;(conv=>lhs;whnf)<;>exact rfl;(with_reducible assumption))|(apply OKx_ldI;exact rfl;(first | exact at0|exact at1|exact at2|exact at3|exact at4|exact at5|exact at6|exact at7);omega)|(apply OKx_len;exact rfl)|(apply OKx_lenR;(conv=>lhs;whnf)<;>exact rfl;(with_reducible assumption))|(apply OKx_lenR2;(conv=>lhs;whnf)<;>exact rfl;(with_reducible assumption))|(apply OKx_lenO;(conv=>lhs;whnf)<;>exact rfl;(first | exact at0|exact at1|exact at2|exact at3|exact at4|exact at5|exact at6|exact at7))|(apply OKx_lss;exact rfl;exact rfl;all_goals (intro _; try (exfalso;omega)))|(apply OKx_leq;exact rfl;exact rfl;all_goals (intro _; try (exfalso;omega)))|(apply OKx_geq;exact rfl;exact rfl;all_goals (intro _; try (exfalso;omega)))|(apply OKx_eql;exact rfl;exact rfl;all_goals (intro _; try (exfalso;omega)))|(apply OKx_neq;exact rfl;exact rfl;all_goals (intro _; try (exfalso;omega)))|(apply OKx_idxO;exact rfl;exact rfl;omega)|(apply OKx_idxR;(conv=>lhs;whnf)<;>exact rfl;(with_reducible assumption);exact rfl;omega;intro _ _)|(apply OKx_idxOz;exact rfl;exact rfl;omega;omega)|(apply OKx_idxRz;(conv=>lhs;whnf)<;>exact rfl;(with_reducible assumption);exact rfl;omega;omega;intro _ _)|(apply OKx_inc;exact rfl;exact rfl;omega)|(apply OKx_addN;exact rfl;exact rfl;omega)|(apply OKx_add;exact rfl;exact rfl;omega;omega)|(apply OKx_dec;exact rfl;exact rfl;omega;omega)|(apply OKx_subN;exact rfl;exact rfl;omega;omega)|(apply OKx_sub;exact rfl;exact rfl;omega;omega)|(apply OKx_min;exact rfl;exact rfl)|(apply OKx_pickT;exact rfl;(conv=>lhs;whnf)<;>exact rfl)|(apply OKx_pickF;exact rfl;(conv=>lhs;whnf)<;>exact rfl)|(apply OKx_guardT;exact rfl;exact rfl)|(apply OKx_guardF;exact rfl;exact rfl)|(apply OKx_guardU;exact rfl;exact rfl)|(apply OKx_notT;exact rfl)|(apply OKx_notF;exact rfl)|(apply OKx_extract;exact rfl;(conv=>lhs;whnf)<;>exact rfl)|(apply OKx_slit1;(conv=>lhs;whnf)<;>exact rfl;exact rfl;intro _))
    all_goals
      refine bodyQ_r1 (by ((conv=>lhs;whnf)<;>exact rfl)) ?_
      exact ⟨_, Ent.nil, rfl, rfl⟩
  rw [if_neg hz] at hE
  have hlaw := fun j (hj : j < M.length) => dstX_law n (sm M) M j hj (by omega)
  have hdl := dstL_len n (sm M) M
  have hdg := fun j (hj : j < M.length) => dstL_get n (sm M) M j hj
  have hall := dstL_all n M hz
  have hdt := fun j (hj : j ≤ M.length) => dstL_take n (sm M) M j hj
  have hds := fun j (hj : j < M.length) => sm_take (dstL n (sm M) M) j (by omega)
  have hkk : 0 < k := by
    by_cases h9 : k = 0
    · have e9 : M = [] := List.length_eq_zero_iff.1 (by omega)
      rw [e9] at hz
      exact absurd rfl hz
    · omega
  repeat' (first|(apply OK_seq)|(apply thenQ_n)|(apply OK_region)|(apply OKx_gc 22;exact rfl; refine OKx_call (f := 22) rfl rfl (fun w1 hp => Distribute_sat _ n M w1 (hp.ints (xs := M) 0 rfl (by omega))) ?_; rintro _ _ (⟨h9, _⟩ | ⟨_, ma, mc, rfl, rfl⟩) <;> first | exact absurd hE h9 | (rw [List.cons_append, List.nil_append]; refine OKx_worldL fun w9 hp9 => ?_; obtain ⟨ga, ca, ea⟩ := hp9.rowForm 0 rfl (by omega); obtain ⟨gb, cb, eb⟩ := hp9.rowForm 1 rfl hkk; simp only [Value.slice.injEq] at ea eb; obtain ⟨rfl, _, rfl⟩ := ea; obtain ⟨rfl, _, rfl⟩ := eb))|(apply OKx_nilK)|(apply OK_block)|(apply blockQ_n)|(apply blockQ_s)|(apply thenQ_e)|(apply blockQ_e;exact rfl)|(apply thenQ_r)|(apply blockQ_r)|(apply OK_condT;exact rfl)|(apply OK_condF;exact rfl)|(apply OK_skip)|(apply OK_exit)|(apply OK_ret)|(apply OKx_move;(conv=>lhs;whnf)<;>exact rfl)|(apply OKx_assign;(conv=>lhs;whnf)<;>exact rfl)|(apply OKx_ldB;exact rfl;(first | exact at0|exact at1|exact at2|exact at3|exact at4|exact at5|exact at6|exact at7);exact rfl)|(apply OKx_ldR;(conv=>lhs;whnf)<;>exact rfl;(with_reducible assumption))|(apply OKx_ldI;exact rfl;(first | exact at0|exact at1|exact at2|exact at3|exact at4|exact at5|exact at6|exact at7);omega)|(apply OKx_len;exact rfl)|(apply OKx_lenR;(conv=>lhs;whnf)<;>exact rfl;(with_reducible assumption))|(apply OKx_lenR2;(conv=>lhs;whnf)<;>exact rfl;(with_reducible assumption))|(apply OKx_lenO;(conv=>lhs;whnf)<;>exact rfl;(first | exact at0|exact at1|exact at2|exact at3|exact at4|exact at5|exact at6|exact at7))|(apply OKx_lss;exact rfl;exact rfl;all_goals (intro _; try (exfalso;omega)))|(apply OKx_leq;exact rfl;exact rfl;all_goals (intro _; try (exfalso;omega)))|(apply OKx_geq;exact rfl;exact rfl;all_goals (intro _; try (exfalso;omega)))|(apply OKx_eql;exact rfl;exact rfl;all_goals (intro _; try (exfalso;omega)))|(apply OKx_neq;exact rfl;exact rfl;all_goals (intro _; try (exfalso;omega)))|(apply OKx_idxO;exact rfl;exact rfl;omega)|(apply OKx_idxR;(conv=>lhs;whnf)<;>exact rfl;(with_reducible assumption);exact rfl;omega;intro _ _)|(apply OKx_idxOz;exact rfl;exact rfl;omega;omega)|(apply OKx_idxRz;(conv=>lhs;whnf)<;>exact rfl;(with_reducible assumption);exact rfl;omega;omega;intro _ _)|(apply OKx_inc;exact rfl;exact rfl;omega)|(apply OKx_addN;exact rfl;exact rfl;omega)|(apply OKx_add;exact rfl;exact rfl;omega;omega)|(apply OKx_dec;exact rfl;exact rfl;omega;omega)|(apply OKx_subN;exact rfl;exact rfl;omega;omega)|(apply OKx_sub;exact rfl;exact rfl;omega;omega)|(apply OKx_min;exact rfl;exact rfl)|(apply OKx_pickT;exact rfl;(conv=>lhs;whnf)<;>exact rfl)|(apply OKx_pickF;exact rfl;(conv=>lhs;whnf)<;>exact rfl)|(apply OKx_guardT;exact rfl;exact rfl)|(apply OKx_guardF;exact rfl;exact rfl)|(apply OKx_guardU;exact rfl;exact rfl)|(apply OKx_notT;exact rfl)|(apply OKx_notF;exact rfl)|(apply OKx_extract;exact rfl;(conv=>lhs;whnf)<;>exact rfl)|(apply OKx_slit1;(conv=>lhs;whnf)<;>exact rfl;exact rfl;intro _))
  refine OK_loop2 12 70 [4, 12, 13, 14, 15, 70, 71, 72, 73, 74, 75, 76, 77, 78, 79, 80, 81, 82, 83, 84, 85, 86, 87, 88, 89, 90, 91, 92, 93, 94, 95, 96, 97, 98, 99, 100, 101, 102, 103, 104, 105, 106, 107, 108] (fun m u v L => ∃ j : Nat, j + m = M.length ∧ u = .int .i64 (sm ((dstL n (sm M) M).take j)) ∧ v = .int .i64 (j : Int) ∧ L = [.row 3 1 (.slice (some ⟨ga, 0, none⟩) M.length mc) M.length (ints (dstL n (sm M) M)), .row 3 1 (.slice (some ⟨gb, 0, none⟩) k nc) k (ints M)]) M.length _ (Ent.pick [0, 1] rfl) ⟨0, by omega, rfl, rfl, rfl⟩ ?_
  rintro m2 u v L G2 ⟨j, hj, rfl, rfl, rfl⟩
  by_cases hjl : j < M.length
  · obtain ⟨l1, l2, l3⟩ := hlaw j hjl
    have g1 := hdg j hjl
    have d1 := hdt j (by omega)
    have d2 := hds j hjl
    have p1 := hgb j (by omega)
    have p2 := htk j
    rw [← g1] at l1 l2 l3
    have q1 := mul_bdz (a := n) (b := M.getD j 0) (A := 1048576) (B := 1048576) (C := 1099511627776) (by omega) (by omega) (by decide)
    have q2 := mul_bdz (a := n) (b := sm (M.take j)) (A := 1048576) (B := 20971520) (C := 21990232555520) (by omega) (by omega) (by decide)
    have q3 := ediv_bd (s := sm M) (by omega) q2.1 q2.2
    have q4 := mul_bdz (a := n) (b := sm (M.take (j + 1))) (A := 1048576) (B := 20971520) (C := 21990232555520) (by omega) (by have := htk (j + 1);omega) (by decide)
    have q5 := ediv_bd (s := sm M) (by omega) q4.1 q4.2
    rw [← hdt (j + 1) (by omega)] at q5
    rw [← d1] at q3
    generalize dstL n (sm M) M = O at *
    repeat' (first|(apply OK_seq)|(apply thenQ_n)|(apply OK_region)|(apply OKx_gn; refine OKx_add rfl rfl (by omega) (by omega) ?_)|(apply OKx_gn; refine OKx_sub rfl rfl (by omega) (by omega) ?_)|(apply OKx_gn; refine OKx_mul rfl rfl (by omega) (by omega) ?_)|(refine OKx_neg rfl (by omega) (by omega) ?_)|(apply OKx_nilK)|(apply OK_block)|(apply blockQ_n)|(apply blockQ_s)|(apply thenQ_e)|(apply blockQ_e;exact rfl)|(apply thenQ_r)|(apply blockQ_r)|(apply OK_condT;exact rfl)|(apply OK_condF;exact rfl)|(apply OK_skip)|(apply OK_exit)|(apply OK_ret)|(apply OKx_move;(conv=>lhs;whnf)<;>exact rfl)|(apply OKx_assign;(conv=>lhs;whnf)<;>exact rfl)|(apply OKx_ldB;exact rfl;(first | exact at0|exact at1|exact at2|exact at3|exact at4|exact at5|exact at6|exact at7);exact rfl)|(apply OKx_ldR;(conv=>lhs;whnf)<;>exact rfl;(with_reducible assumption))|(apply OKx_ldI;exact rfl;(first | exact at0|exact at1|exact at2|exact at3|exact at4|exact at5|exact at6|exact at7);omega)|(apply OKx_len;exact rfl)|(apply OKx_lenR;(conv=>lhs;whnf)<;>exact rfl;(with_reducible assumption))|(apply OKx_lenR2;(conv=>lhs;whnf)<;>exact rfl;(with_reducible assumption))|(apply OKx_lenO;(conv=>lhs;whnf)<;>exact rfl;(first | exact at0|exact at1|exact at2|exact at3|exact at4|exact at5|exact at6|exact at7))|(apply OKx_lss;exact rfl;exact rfl;all_goals (intro _; try (exfalso;omega)))|(apply OKx_leq;exact rfl;exact rfl;all_goals (intro _; try (exfalso;omega)))|(apply OKx_geq;exact rfl;exact rfl;all_goals (intro _; try (exfalso;omega)))|(apply OKx_eql;exact rfl;exact rfl;all_goals (intro _; try (exfalso;omega)))|(apply OKx_neq;exact rfl;exact rfl;all_goals (intro _; try (exfalso;omega)))|(apply OKx_idxO;exact rfl;exact rfl;omega)|(apply OKx_idxR;(conv=>lhs;whnf)<;>exact rfl;(with_reducible assumption);exact rfl;omega;intro _ _)|(apply OKx_idxOz;exact rfl;exact rfl;omega;omega)|(apply OKx_idxRz;(conv=>lhs;whnf)<;>exact rfl;(with_reducible assumption);exact rfl;omega;omega;intro _ _)|(apply OKx_inc;exact rfl;exact rfl;omega)|(apply OKx_addN;exact rfl;exact rfl;omega)|(apply OKx_add;exact rfl;exact rfl;omega;omega)|(apply OKx_dec;exact rfl;exact rfl;omega;omega)|(apply OKx_subN;exact rfl;exact rfl;omega;omega)|(apply OKx_sub;exact rfl;exact rfl;omega;omega)|(apply OKx_min;exact rfl;exact rfl)|(apply OKx_pickT;exact rfl;(conv=>lhs;whnf)<;>exact rfl)|(apply OKx_pickF;exact rfl;(conv=>lhs;whnf)<;>exact rfl)|(apply OKx_guardT;exact rfl;exact rfl)|(apply OKx_guardF;exact rfl;exact rfl)|(apply OKx_guardU;exact rfl;exact rfl)|(apply OKx_notT;exact rfl)|(apply OKx_notF;exact rfl)|(apply OKx_extract;exact rfl;(conv=>lhs;whnf)<;>exact rfl)|(apply OKx_slit1;(conv=>lhs;whnf)<;>exact rfl;exact rfl;intro _))
    all_goals
      refine ⟨by (repeat' (first | refine agree_upd rfl ?_ | exact agree_over | exact agree_refl _ _ | refine agree_over2 rfl ?_)), m2 - 1, _, by omega, Ent.refl _ _, ?_⟩
      exact ⟨j + 1, by omega, int_eq d2.symm, rfl, rfl⟩
  · obtain rfl : j = M.length := by omega
    have e5 : sm ((dstL n (sm M) M).take M.length) = n := by rw [← hdl, List.take_length, hall]
    rw [e5]
    repeat' (first|(apply OK_seq)|(apply thenQ_n)|(apply OK_region)|(apply OKx_gc 10;exact rfl; refine OKx_callV (f := 10) rfl rfl rfl (fun w1 hp => awake02_sat w1 (hm.below hp.below) (ht.below hp.below)) ?_)|(apply OKx_nilK)|(apply OK_block)|(apply blockQ_n)|(apply blockQ_s)|(apply thenQ_e)|(apply blockQ_e;exact rfl)|(apply thenQ_r)|(apply blockQ_r)|(apply OK_condT;exact rfl)|(apply OK_condF;exact rfl)|(apply OK_skip)|(apply OK_exit)|(apply OK_ret)|(apply OKx_move;(conv=>lhs;whnf)<;>exact rfl)|(apply OKx_assign;(conv=>lhs;whnf)<;>exact rfl)|(apply OKx_ldB;exact rfl;(first | exact at0|exact at1|exact at2|exact at3|exact at4|exact at5|exact at6|exact at7);exact rfl)|(apply OKx_ldR;(conv=>lhs;whnf)<;>exact rfl;(with_reducible assumption))|(apply OKx_ldI;exact rfl;(first | exact at0|exact at1|exact at2|exact at3|exact at4|exact at5|exact at6|exact at7);omega)|(apply OKx_len;exact rfl)|(apply OKx_lenR;(conv=>lhs;whnf)<;>exact rfl;(with_reducible assumption))|(apply OKx_lenR2;(conv=>lhs;whnf)<;>exact rfl;(with_reducible assumption))|(apply OKx_lenO;(conv=>lhs;whnf)<;>exact rfl;(first | exact at0|exact at1|exact at2|exact at3|exact at4|exact at5|exact at6|exact at7))|(apply OKx_lss;exact rfl;exact rfl;all_goals (intro _; try (exfalso;omega)))|(apply OKx_leq;exact rfl;exact rfl;all_goals (intro _; try (exfalso;omega)))|(apply OKx_geq;exact rfl;exact rfl;all_goals (intro _; try (exfalso;omega)))|(apply OKx_eql;exact rfl;exact rfl;all_goals (intro _; try (exfalso;omega)))|(apply OKx_neq;exact rfl;exact rfl;all_goals (intro _; try (exfalso;omega)))|(apply OKx_idxO;exact rfl;exact rfl;omega)|(apply OKx_idxR;(conv=>lhs;whnf)<;>exact rfl;(with_reducible assumption);exact rfl;omega;intro _ _)|(apply OKx_idxOz;exact rfl;exact rfl;omega;omega)|(apply OKx_idxRz;(conv=>lhs;whnf)<;>exact rfl;(with_reducible assumption);exact rfl;omega;omega;intro _ _)|(apply OKx_inc;exact rfl;exact rfl;omega)|(apply OKx_addN;exact rfl;exact rfl;omega)|(apply OKx_add;exact rfl;exact rfl;omega;omega)|(apply OKx_dec;exact rfl;exact rfl;omega;omega)|(apply OKx_subN;exact rfl;exact rfl;omega;omega)|(apply OKx_sub;exact rfl;exact rfl;omega;omega)|(apply OKx_min;exact rfl;exact rfl)|(apply OKx_pickT;exact rfl;(conv=>lhs;whnf)<;>exact rfl)|(apply OKx_pickF;exact rfl;(conv=>lhs;whnf)<;>exact rfl)|(apply OKx_guardT;exact rfl;exact rfl)|(apply OKx_guardF;exact rfl;exact rfl)|(apply OKx_guardU;exact rfl;exact rfl)|(apply OKx_notT;exact rfl)|(apply OKx_notF;exact rfl)|(apply OKx_extract;exact rfl;(conv=>lhs;whnf)<;>exact rfl)|(apply OKx_slit1;(conv=>lhs;whnf)<;>exact rfl;exact rfl;intro _))
    all_goals
      refine bodyQ_r1 (by ((conv=>lhs;whnf)<;>exact rfl)) ?_
      exact ⟨_, Ent.nil, rfl, rfl⟩
end Go.Proofs.YtkimmlhcaanfjaaDoor
namespace Go.Proofs.YtkimmlhcaanfjaaDoor
open Go.RowKit
theorem tbl_of {l : List (String × DataW Unit)} {W : World} (h : laidMetH Tryd.prog l W) (hf : l.filter (fun x => x.1 == "internal/strconv.uint64pow10") = [("internal/strconv.uint64pow10", Lib.tabData .u64 Lib.pow10Tab)]) : TbL W := by
  have h1 := h.filter (fun x => x.1 == "internal/strconv.uint64pow10")
  rw [hf, MakeChecks.laidMetH_plain _ _ _ (by rfl)] at h1
  exact Lib.tabIs_of_head (g := 1) (t := 95) (e := 61) (n := 20) (by kernel_rfl) (by kernel_rfl) Tryd.underlying95 Tryd.underlying61 (by kernel_rfl) (by kernel_rfl) h1
end Go.Proofs.YtkimmlhcaanfjaaDoor
