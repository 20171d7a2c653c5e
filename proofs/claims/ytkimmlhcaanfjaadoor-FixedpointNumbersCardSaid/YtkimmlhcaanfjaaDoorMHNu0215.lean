/-
  Part 15 of the proof: Ln02, Tbl, Open, Crd. No statement of the seat is proved here.
-/
import Derived.Test.YtkimmlhcaanfjaaDoorMHNu0214
import Derived.LaidSub
import Derived.MakeChecks
import Derived.Lib.LaidTab
import Derived.ProofKit
import Derived.SizedLaws
import Derived.Deep.Strs
import Derived.Test.YtkimmlhcaanfjaaDoorRows
import Derived.HandedShaped
import Derived.LaidMore
import Derived.Lay
namespace Go.Proofs.YtkimmlhcaanfjaaDoor
open Go.RowKit
def grt2 (xs : List Int) : Bool := decide (20 < xs.length ∧ xs.length ≤ 4096 ∨ 4100 < xs.length)
set_option maxRecDepth 100000 in
set_option maxHeartbeats 4000000 in
theorem great2_sat (v : Value) (xs : List Int) (w : World) (h : Ints w v xs) : SatV Tryd.prog 17 [v] w (.bool (grt2 xs)) := by
  have hs := h.sl
  have hsb := hs.bound
  by_cases hg : 20 < xs.length ∧ xs.length ≤ 4096 ∨ 4100 < xs.length
  · have e : grt2 xs = true := decide_eq_true hg
    rw [e]
    refine SatL.of 16 [2] Tryd.func17 (by kernel_rfl) (by kernel_rfl) rfl rfl rfl rfl ?_
    repeat' (first|(apply OK_seq)|(apply thenQ_n)|(apply OK_region)|(apply OKx_nilK)|(apply OK_block)|(apply blockQ_n)|(apply blockQ_s)|(apply thenQ_e)|(apply blockQ_e;exact rfl)|(apply thenQ_r)|(apply blockQ_r)|(apply OK_condT;exact rfl)|(apply OK_condF;exact rfl)|(apply OK_skip)|(apply OK_exit)|(apply OK_ret)|(apply OKx_move;(conv=>lhs;whnf)<;>exact rfl)|(apply OKx_assign;(conv=>lhs;whnf)<;>exact rfl)|(apply OKx_len;exact rfl)|(apply OKx_lenR;(conv=>lhs;whnf)<;>exact rfl;(with_reducible assumption))|(apply OKx_lenR2;(conv=>lhs;whnf)<;>exact rfl;(with_reducible assumption))|(apply OKx_lenO;(conv=>lhs;whnf)<;>exact rfl;(first | exact at0|exact at1|exact at2|exact at3|exact at4|exact at5|exact at6|exact at7))|(apply OKx_leq;exact rfl;exact rfl;all_goals (intro _; try (exfalso;omega)))|(apply OKx_gtr;exact rfl;exact rfl;all_goals (intro _; try (exfalso;omega)))|(apply OKx_pickT;exact rfl;(conv=>lhs;whnf)<;>exact rfl)|(apply OKx_pickF;exact rfl;(conv=>lhs;whnf)<;>exact rfl)|(apply OKx_guardT;exact rfl;exact rfl)|(apply OKx_guardF;exact rfl;exact rfl)|(apply OKx_guardU;exact rfl;exact rfl))
    all_goals
      refine bodyQ_r1 (by ((conv=>lhs;whnf)<;>exact rfl)) ?_
      exact ⟨_, Ent.nil, rfl, rfl⟩
  · have e : grt2 xs = false := decide_eq_false hg
    rw [e]
    refine SatL.of 16 [2] Tryd.func17 (by kernel_rfl) (by kernel_rfl) rfl rfl rfl rfl ?_
    repeat' (first|(apply OK_seq)|(apply thenQ_n)|(apply OK_region)|(apply OKx_nilK)|(apply OK_block)|(apply blockQ_n)|(apply blockQ_s)|(apply thenQ_e)|(apply blockQ_e;exact rfl)|(apply thenQ_r)|(apply blockQ_r)|(apply OK_condT;exact rfl)|(apply OK_condF;exact rfl)|(apply OK_skip)|(apply OK_exit)|(apply OK_ret)|(apply OKx_move;(conv=>lhs;whnf)<;>exact rfl)|(apply OKx_assign;(conv=>lhs;whnf)<;>exact rfl)|(apply OKx_len;exact rfl)|(apply OKx_lenR;(conv=>lhs;whnf)<;>exact rfl;(with_reducible assumption))|(apply OKx_lenR2;(conv=>lhs;whnf)<;>exact rfl;(with_reducible assumption))|(apply OKx_lenO;(conv=>lhs;whnf)<;>exact rfl;(first | exact at0|exact at1|exact at2|exact at3|exact at4|exact at5|exact at6|exact at7))|(apply OKx_leq;exact rfl;exact rfl;all_goals (intro _; try (exfalso;omega)))|(apply OKx_gtr;exact rfl;exact rfl;all_goals (intro _; try (exfalso;omega)))|(apply OKx_pickT;exact rfl;(conv=>lhs;whnf)<;>exact rfl)|(apply OKx_pickF;exact rfl;(conv=>lhs;whnf)<;>exact rfl)|(apply OKx_guardT;exact rfl;exact rfl)|(apply OKx_guardF;exact rfl;exact rfl)|(apply OKx_guardU;exact rfl;exact rfl))
    all_goals
      refine bodyQ_r1 (by ((conv=>lhs;whnf)<;>exact rfl)) ?_
      exact ⟨_, Ent.nil, rfl, rfl⟩
set_option maxRecDepth 100000 in
set_option maxHeartbeats 4000000 in
theorem FixedpointNumbers_sat (v : Value) (xs : List Int) (a b c : Int) (w : World) (h : Ints w v xs) (ha : -9223372036854775808 ≤ a ∧ a ≤ 9223372036854775807) (hb : -9223372036854775808 ≤ b ∧ b ≤ 9223372036854775807) (_ : -9223372036854775808 ≤ c ∧ c ≤ 9223372036854775807) (hm : MxL w) (ht : TbL w) :
    SatV Tryd.prog 4 [v, .int .i64 a, .int .i64 b, .int .i64 c] w (.bool true) := by
  have cg := fun w1 (hbw : Below w.heap.size w w1) => great2_sat v xs w1 (h.below hbw)
  cases hg : grt2 xs with
  | true =>
    rw [hg] at cg
    refine SatL.of 100 [8] Tryd.func4 (by kernel_rfl) (by kernel_rfl) rfl rfl rfl rfl ?_
    repeat' (first|(apply OK_seq)|(apply thenQ_n)|(apply OK_region)|(apply OKx_gc 17;exact rfl; refine OKx_callV (f := 17) rfl rfl rfl (fun w1 hp => cg w1 hp.below) ?_)|(apply OKx_gc 10;exact rfl; refine OKx_callV (f := 10) rfl rfl rfl (fun w1 hp => awake02_sat w1 (hm.below hp.below) (ht.below hp.below)) ?_)|(apply OKx_nilK)|(apply OK_block)|(apply blockQ_n)|(apply blockQ_s)|(apply thenQ_e)|(apply blockQ_e;exact rfl)|(apply thenQ_r)|(apply blockQ_r)|(apply OK_condT;exact rfl)|(apply OK_condF;exact rfl)|(apply OK_skip)|(apply OK_exit)|(apply OK_ret)|(apply OKx_move;(conv=>lhs;whnf)<;>exact rfl)|(apply OKx_assign;(conv=>lhs;whnf)<;>exact rfl)|(apply OKx_eql;exact rfl;exact rfl;all_goals (intro _; try (exfalso;omega)))|(apply OKx_pickT;exact rfl;(conv=>lhs;whnf)<;>exact rfl)|(apply OKx_pickF;exact rfl;(conv=>lhs;whnf)<;>exact rfl)|(apply OKx_guardT;exact rfl;exact rfl)|(apply OKx_guardF;exact rfl;exact rfl)|(apply OKx_guardU;exact rfl;exact rfl)|(apply OKx_extract;exact rfl;(conv=>lhs;whnf)<;>exact rfl))
    refine bodyQ_r1 (by ((conv=>lhs;whnf)<;>exact rfl)) ?_
    exact ⟨_, Ent.nil, rfl, rfl⟩
  | false =>
    rw [hg] at cg
    have hlen : xs.length ≤ 4100 := by
      have := of_decide_eq_false hg
      omega
    have hdl := dstL_len a (sm xs) xs
    by_cases hE : dstE a xs = 0
    · refine SatL.of 100 [8] Tryd.func4 (by kernel_rfl) (by kernel_rfl) rfl rfl rfl rfl ?_
      repeat' (first|(apply OK_seq)|(apply thenQ_n)|(apply OK_region)|(apply OKx_gc 17;exact rfl; refine OKx_callV (f := 17) rfl rfl rfl (fun w1 hp => cg w1 hp.below) ?_)|(apply OKx_gc 10;exact rfl; refine OKx_callV (f := 10) rfl rfl rfl (fun w1 hp => awake02_sat w1 (hm.below hp.below) (ht.below hp.below)) ?_)|(apply OKx_gc 18;exact rfl; refine OKx_callV (f := 18) rfl rfl rfl (fun w1 hp => Sum_sat v xs w1 (h.below hp.below)) ?_)|(apply OKx_gc 19;exact rfl; refine OKx_callV (f := 19) rfl rfl rfl (fun w1 hp => rSum_sat v xs w1 (h.below hp.below)) ?_)|(apply OKx_gc 20;exact rfl; refine OKx_callV (f := 20) rfl rfl rfl (fun w1 hp => Scale_sat a b c w1 ha) ?_)|(apply OKx_gc 21;exact rfl; refine OKx_callV (f := 21) rfl rfl rfl (fun w1 hp => rScale_sat a b c w1 ha) ?_)|(apply OKx_gc 22;exact rfl; refine OKx_call (f := 22) rfl rfl (fun w1 hp => Distribute_sat v a xs w1 (h.below hp.below)) ?_; rintro _ _ (⟨h9, _⟩ | ⟨_, ma, mc, rfl, rfl⟩) <;> first | exact absurd hE h9 | rw [List.cons_append, List.nil_append])|(apply OKx_gc 23;exact rfl; refine OKx_call (f := 23) rfl rfl (fun w1 hp => rDistribute_sat v a xs w1 (h.below hp.below)) ?_; rintro _ _ (⟨h9, _⟩ | ⟨_, na, nc, rfl, rfl⟩) <;> first | exact absurd hE h9 | rw [List.cons_append, List.nil_append])|(apply OKx_gc 24;exact rfl; refine OKx_callV (f := 24) (v := .bool true) rfl rfl rfl (fun w1 hp => equalT_sat _ _ (dstL a (sm xs) xs) (dstL a (sm xs) xs) w1 (hp.ints 1 rfl (by omega)) (hp.ints 0 rfl (by omega)) rfl) ?_)|(apply OKx_gc 25;exact rfl; refine OKx_callV (f := 25) rfl rfl rfl (fun w1 hp => Badness_sat a b w1 ha hb) ?_)|(apply OKx_gc 26;exact rfl; refine OKx_callV (f := 26) rfl rfl rfl (fun w1 hp => rBadness_sat a b w1 ha hb) ?_)|(apply OKx_gn; refine OKx_ieqT rfl rfl ?_)|(apply OKx_nilK)|(apply OK_block)|(apply blockQ_n)|(apply blockQ_s)|(apply thenQ_e)|(apply blockQ_e;exact rfl)|(apply thenQ_r)|(apply blockQ_r)|(apply OK_condT;exact rfl)|(apply OK_condF;exact rfl)|(apply OK_skip)|(apply OK_exit)|(apply OK_ret)|(apply OKx_move;(conv=>lhs;whnf)<;>exact rfl)|(apply OKx_assign;(conv=>lhs;whnf)<;>exact rfl)|(apply OKx_eql;exact rfl;exact rfl;all_goals (intro _; try (exfalso;omega)))|(apply OKx_pickT;exact rfl;(conv=>lhs;whnf)<;>exact rfl)|(apply OKx_pickF;exact rfl;(conv=>lhs;whnf)<;>exact rfl)|(apply OKx_guardT;exact rfl;exact rfl)|(apply OKx_guardF;exact rfl;exact rfl)|(apply OKx_guardU;exact rfl;exact rfl)|(apply OKx_extract;exact rfl;(conv=>lhs;whnf)<;>exact rfl))
      refine bodyQ_r1 (by ((conv=>lhs;whnf)<;>exact rfl)) ?_
      exact ⟨_, Ent.nil, rfl, rfl⟩
    · refine SatL.of 100 [8] Tryd.func4 (by kernel_rfl) (by kernel_rfl) rfl rfl rfl rfl ?_
      repeat' (first|(apply OK_seq)|(apply thenQ_n)|(apply OK_region)|(apply OKx_gc 17;exact rfl; refine OKx_callV (f := 17) rfl rfl rfl (fun w1 hp => cg w1 hp.below) ?_)|(apply OKx_gc 10;exact rfl; refine OKx_callV (f := 10) rfl rfl rfl (fun w1 hp => awake02_sat w1 (hm.below hp.below) (ht.below hp.below)) ?_)|(apply OKx_gc 18;exact rfl; refine OKx_callV (f := 18) rfl rfl rfl (fun w1 hp => Sum_sat v xs w1 (h.below hp.below)) ?_)|(apply OKx_gc 19;exact rfl; refine OKx_callV (f := 19) rfl rfl rfl (fun w1 hp => rSum_sat v xs w1 (h.below hp.below)) ?_)|(apply OKx_gc 20;exact rfl; refine OKx_callV (f := 20) rfl rfl rfl (fun w1 hp => Scale_sat a b c w1 ha) ?_)|(apply OKx_gc 21;exact rfl; refine OKx_callV (f := 21) rfl rfl rfl (fun w1 hp => rScale_sat a b c w1 ha) ?_)|(apply OKx_gc 22;exact rfl; refine OKx_call (f := 22) rfl rfl (fun w1 hp => Distribute_sat v a xs w1 (h.below hp.below)) ?_; rintro _ _ (⟨_, rfl, rfl⟩ | ⟨h9, _⟩) <;> first | exact absurd h9 hE | rw [List.nil_append])|(apply OKx_gc 23;exact rfl; refine OKx_call (f := 23) rfl rfl (fun w1 hp => rDistribute_sat v a xs w1 (h.below hp.below)) ?_; rintro _ _ (⟨_, rfl, rfl⟩ | ⟨h9, _⟩) <;> first | exact absurd h9 hE | rw [List.nil_append])|(apply OKx_gc 24;exact rfl; refine OKx_callV (f := 24) (v := .bool true) rfl rfl rfl (fun w1 hp => equalT_sat _ _ [] [] w1 (Ints.nil w1) (Ints.nil w1) rfl) ?_)|(apply OKx_gc 25;exact rfl; refine OKx_callV (f := 25) rfl rfl rfl (fun w1 hp => Badness_sat a b w1 ha hb) ?_)|(apply OKx_gc 26;exact rfl; refine OKx_callV (f := 26) rfl rfl rfl (fun w1 hp => rBadness_sat a b w1 ha hb) ?_)|(apply OKx_gn; refine OKx_ieqT rfl rfl ?_)|(apply OKx_nilK)|(apply OK_block)|(apply blockQ_n)|(apply blockQ_s)|(apply thenQ_e)|(apply blockQ_e;exact rfl)|(apply thenQ_r)|(apply blockQ_r)|(apply OK_condT;exact rfl)|(apply OK_condF;exact rfl)|(apply OK_skip)|(apply OK_exit)|(apply OK_ret)|(apply OKx_move;(conv=>lhs;whnf)<;>exact rfl)|(apply OKx_assign;(conv=>lhs;whnf)<;>exact rfl)|(apply OKx_eql;exact rfl;exact rfl;all_goals (intro _; try (exfalso;omega)))|(apply OKx_pickT;exact rfl;(conv=>lhs;whnf)<;>exact rfl)|(apply OKx_pickF;exact rfl;(conv=>lhs;whnf)<;>exact rfl)|(apply OKx_guardT;exact rfl;exact rfl)|(apply OKx_guardF;exact rfl;exact rfl)|(apply OKx_guardU;exact rfl;exact rfl)|(apply OKx_extract;exact rfl;(conv=>lhs;whnf)<;>exact rfl))
      refine bodyQ_r1 (by ((conv=>lhs;whnf)<;>exact rfl)) ?_
      exact ⟨_, Ent.nil, rfl, rfl⟩
end Go.Proofs.YtkimmlhcaanfjaaDoor
namespace Go.Proofs.YtkimmlhcaanfjaaDoor
open Go.RowKit
theorem tbl_of {l : List (String × DataW Unit)} {W : World} (h : laidMetH Tryd.prog l W) (hf : l.filter (fun x => x.1 == "internal/strconv.uint64pow10") = [("internal/strconv.uint64pow10", Lib.tabData .u64 Lib.pow10Tab)]) : TbL W := by
  have h1 := h.filter (fun x => x.1 == "internal/strconv.uint64pow10")
  rw [hf, MakeChecks.laidMetH_plain _ _ _ (by rfl)] at h1
  exact Lib.tabIs_of_head (g := 1) (t := 95) (e := 61) (n := 20) (by kernel_rfl) (by kernel_rfl) Tryd.underlying95 Tryd.underlying61 (by kernel_rfl) (by kernel_rfl) h1
end Go.Proofs.YtkimmlhcaanfjaaDoor
namespace Go.Proofs.YtkimmlhcaanfjaaDoor
open Go.RowKit Go.Deep Go.WideShapes
section
variable {H : Type} {enc : TypeId × Value → H} {W : World}
def Light (t : TypeId) (d : DataW H) : Prop := ∀ n ∈ d.weights Tryd.prog t, n ≤ 140737488355328
theorem light_all {e : TypeId} {els : List (DataW H)} {d : DataW H} (hd : d ∈ els) {n : Nat} (hn : n ∈ d.weights Tryd.prog e) : n ∈ DataW.weightsAll Tryd.prog e els := by
  induction els with
  | nil => simp at hd
  | cons a r ih =>
    simp only [DataW.weightsAll, List.mem_append]
    rcases List.mem_cons.1 hd with rfl | h
    · exact .inl hn
    · exact .inr (ih h)
theorem light_slice {t e : TypeId} {els sp : List (DataW H)} (hu : Tryd.prog.underlying t = some (.slice e)) (h : Light t (.slice els sp)) : (els.length + sp.length) * Tryd.prog.bytesOf e ≤ 140737488355328 ∧ ∀ d ∈ els, Light e d := by
  unfold Light at *
  simp only [DataW.weights, hu] at h
  exact ⟨h _ (by simp), fun d hd n hn => h n (by simp [light_all hd hn])⟩
theorem light_each {ts : List TypeId} {ds : List (DataW H)} (h : (DataW.weightsEach Tryd.prog ts ds).all (· ≤ reachBytes) = true) (j : Nat) {t : TypeId} {d : DataW H} (h1 : ts[j]? = some t) (h2 : ds[j]? = some d) : Light t d := by
  intro n hn
  have : n ≤ reachBytes := by simpa using List.all_eq_true.1 h _ (DataW.weights_mem_each h1 h2 n hn)
  have r : reachBytes = 140737488351232 := rfl
  omega
theorem wf_range {z : Int} (h : (Lit.int .i64 z).wf = true) : -9223372036854775808 ≤ z ∧ z ≤ 9223372036854775807 := by
  have e1 : IntKind.i64.min = -9223372036854775808 := rfl
  have e2 : IntKind.i64.max = 9223372036854775807 := rfl
  simp only [Lit.wf, Bool.and_eq_true, decide_eq_true_eq] at h
  omega
theorem open_sl2 {t e : TypeId} {fuel sz : Nat} {v : Value} {x : DataW H × List MemPlace} (ht : Tryd.prog.underlying t = some (.slice e)) (hc : Tryd.prog.cellsOf e = sz) (hsz : 0 < sz) (hb : 0 < Tryd.prog.bytesOf e)
    (h : DataW.trod enc Tryd.prog W 0 (fun _ => true) true fuel t [v] = some x) (hw : Light t x.1) :
    ∃ (n m : Nat) (C : Nat → List Value) (D : Nat → DataW H) (Q : Nat → List MemPlace), Sl2 W v sz n (fun j c => (C j).getD c undef) ∧ (∀ a k c, v = .slice a k c → k ≤ c) ∧
      ∀ i, i < n → (C i).length = sz ∧ DataW.trod enc Tryd.prog W 0 (fun _ => true) true m e (C i) = some (D i, Q i) ∧ Light e (D i) := by
  rcases open_slice ht h with ⟨h1, h2⟩ | ⟨a, len, cap, m, n, D, Q, h1, _, hl, hm, hmm, rfl, hx⟩
  · simp only [List.cons.injEq, and_true] at h1
    subst h1; subst h2
    refine ⟨0, 0, fun _ => [], fun _ => .nil, fun _ => [], ⟨by omega, none, 0, rfl, .inl rfl⟩, ?_, fun i hi => absurd hi (by omega)⟩
    intro a k c e
    cases e; exact Nat.le_refl _
  · simp only [List.cons.injEq, and_true] at h1
    subst h1
    simp only [if_true] at hmm
    subst hmm
    obtain ⟨hw1, hw2⟩ := light_slice ht hw
    rw [hc] at hx
    have hx' : ∀ i, i < len → ∃ cs', W.cells? 0 (a.add (i * sz)) sz = some cs' ∧ DataW.trod enc Tryd.prog W 0 (fun _ => true) true n e cs' = some (D i, Q i) := fun i hi => hx i (by omega)
    obtain ⟨C, hC⟩ := choose_lt (α := List Value) hx'
    have hlen : len ≤ 140737488355328 := by
      have : len * 1 ≤ len * Tryd.prog.bytesOf e := Nat.mul_le_mul_left _ hb
      simp only [List.length_map, List.length_range] at hw1
      have h3 : len * Tryd.prog.bytesOf e ≤ (len + (m - len)) * Tryd.prog.bytesOf e := Nat.mul_le_mul_right _ (by omega)
      omega
    refine ⟨len, n, C, D, Q, ⟨hlen, some a, m, rfl, ?_⟩, ?_, fun i hi => ?_⟩
    · by_cases h0 : len = 0
      · exact .inl h0
      right
      obtain ⟨b, off, spot⟩ := a
      have hs : spot = none := by
        obtain ⟨_, h4, h5⟩ := World.cells?_some (hC 0 (by omega)).1
        have h6 := h5 0 hsz
        obtain ⟨u, hu⟩ : ∃ u, (C 0)[0]? = some u := ⟨_, List.getElem?_eq_getElem (by omega)⟩
        rw [hu] at h6
        simpa [Addr.add] using World.cell?_spot h6
      subst hs
      refine ⟨b, off, rfl, fun j hj c hcs => ?_⟩
      obtain ⟨_, h4, h5⟩ := World.cells?_some (hC j hj).1
      have h6 := h5 c hcs
      rw [add_plain, add_plain] at h6
      rw [h6]
      simp [h4, hcs]
    · intro a' k c e
      cases e; exact hl
    · obtain ⟨_, h4, h5⟩ := World.cells?_some (hC i hi).1
      refine ⟨h4, (hC i hi).2, hw2 _ ?_⟩
      exact List.mem_map.2 ⟨i, List.mem_range.2 hi, rfl⟩
theorem Sl2.flat {v : Value} {sz n : Nat} {g : Nat → Nat → Value} (h : Sl2 W v sz n g) (hr : ∀ a k c, v = .slice a k c → k ≤ c) (f : Nat → Value) (hf : ∀ j, j < n → ∀ c, c < sz → f (j * sz + c) = g j c) (hsz : 0 < sz) : Sl W v sz n f := by
  obtain ⟨h1, a, cap, rfl, h2⟩ := h
  refine ⟨h1, ⟨a, cap, rfl, ?_⟩, hr⟩
  rcases h2 with h0 | ⟨b, off, ha, hc⟩
  · exact .inl h0
  refine .inr ⟨b, off, ha, fun j hj => ?_⟩
  have h3 := Nat.div_add_mod j sz
  have h4 := Nat.mod_lt j hsz
  have h5 : j / sz < n := (Nat.div_lt_iff_lt_mul hsz).2 hj
  have h6 := hc (j / sz) h5 (j % sz) h4
  have h7 := hf (j / sz) h5 (j % sz) h4
  have h8 : j / sz * sz + j % sz = j := by rw [Nat.mul_comm]; exact h3
  rw [Nat.add_assoc, h8] at h6
  rw [h8] at h7
  rw [h6, h7]
theorem open_sl {t e : TypeId} {fuel : Nat} {v : Value} {x : DataW H × List MemPlace} (ht : Tryd.prog.underlying t = some (.slice e)) (hc : Tryd.prog.cellsOf e = 1) (hb : 0 < Tryd.prog.bytesOf e)
    (h : DataW.trod enc Tryd.prog W 0 (fun _ => true) true fuel t [v] = some x) (hw : Light t x.1) :
    ∃ (n m : Nat) (V : Nat → Value) (D : Nat → DataW H) (Q : Nat → List MemPlace), Sl W v 1 n V ∧
      ∀ i, i < n → DataW.trod enc Tryd.prog W 0 (fun _ => true) true m e [V i] = some (D i, Q i) ∧ Light e (D i) := by
  obtain ⟨n, m, C, D, Q, h1, h2, h3⟩ := open_sl2 ht hc (by decide) hb h hw
  refine ⟨n, m, fun j => (C j).getD 0 undef, D, Q, h1.flat h2 _ (fun j hj c hcs => ?_) (by decide), fun i hi => ?_⟩
  · obtain rfl : c = 0 := by omega
    simp
  · obtain ⟨h4, h5, h6⟩ := h3 i hi
    refine ⟨?_, h6⟩
    match hCi : C i, h4 with
    | [u], _ => rw [hCi] at h5; simpa [hCi] using h5
theorem range_getD {α : Type} (n : Nat) (f : Nat → α) (d : α) (j : Nat) (h : j < n) : ((List.range n).map f).getD j d = f j := by simp [h]
theorem Ints.open {fuel : Nat} {v : Value} {x : DataW H × List MemPlace} (h : DataW.trod enc Tryd.prog W 0 (fun _ => true) true fuel 30 [v] = some x) (hw : Light 30 x.1) :
    ∃ xs : List Int, Ints W v xs ∧ ∀ i ∈ xs, -9223372036854775808 ≤ i ∧ i ≤ 9223372036854775807 := by
  obtain ⟨n, m, V, D, Q, h1, h2⟩ := open_sl Tryd.underlying30 (by kernel_rfl) (of_decide_eq_true (by kernel_rfl)) h hw
  obtain ⟨Z, hZ⟩ := choose_lt (α := Int) (p := fun i z => V i = .int .i64 z ∧ -9223372036854775808 ≤ z ∧ z ≤ 9223372036854775807) (fun i hi => by
    obtain ⟨z, h4, _, h5⟩ := DataW.trod_int Tryd.underlying3 (h2 i hi).1
    refine ⟨z, by simpa using h4, ?_⟩
    have e1 : IntKind.i64.min = -9223372036854775808 := rfl
    have e2 : IntKind.i64.max = 9223372036854775807 := rfl
    simp only [Lit.wf, Bool.and_eq_true, decide_eq_true_eq] at h5
    omega)
  refine ⟨(List.range n).map Z, ?_, ?_⟩
  · unfold Ints
    rw [List.length_map, List.length_range]
    exact h1.congr fun j hj => (hZ j (by omega)).1.trans (by rw [range_getD _ _ _ _ (by omega)])
  · intro i hi
    obtain ⟨j, hj, rfl⟩ := List.mem_map.1 hi
    exact (hZ j (List.mem_range.1 hj)).2
end
section
variable {H : Type} {enc : TypeId × Value → H} {W : World}
theorem one_cell {v : Value} (ho : ∃ a n c, v = .slice a n c) : v.cells.toList = [v] := by obtain ⟨a, n, c, rfl⟩ := ho; rfl
theorem Ints.openT {v : Value} {d : DataW H} {ps : List MemPlace} (ho : ∃ a n c, v = .slice a n c) (h : DataW.Trod enc Tryd.prog W 0 (fun _ => true) true 30 v d ps) (hw : Light 30 d) :
    ∃ xs : List Int, Ints W v xs ∧ ∀ i ∈ xs, -9223372036854775808 ≤ i ∧ i ≤ 9223372036854775807 := by
  obtain ⟨fuel, h⟩ := h
  rw [one_cell ho] at h
  exact Ints.open h hw
theorem u8.openT {v : Value} {d : DataW H} {ps : List MemPlace} (h : ∃ n, v = .int .u8 n ∧ d = .lit (.int .u8 n) ∧ ps = [] ∧ (Lit.int .u8 n).wf = true) : ∃ n : Int, v = .int .u8 n ∧ 0 ≤ n ∧ n ≤ 255 := by
  obtain ⟨n, rfl, _, _, hw⟩ := h
  have e1 : IntKind.u8.min = 0 := rfl
  have e2 : IntKind.u8.max = 255 := rfl
  simp only [Lit.wf, Bool.and_eq_true, decide_eq_true_eq] at hw
  exact ⟨n, rfl, by omega, by omega⟩
theorem int.openT {v : Value} {d : DataW H} {ps : List MemPlace} (h : ∃ n, v = .int .i64 n ∧ d = .lit (.int .i64 n) ∧ ps = [] ∧ (Lit.int .i64 n).wf = true) : ∃ n : Int, v = .int .i64 n ∧ -9223372036854775808 ≤ n ∧ n ≤ 9223372036854775807 := by
  obtain ⟨n, rfl, _, _, hw⟩ := h
  exact ⟨n, rfl, wf_range hw⟩
theorem again_all (hl : laidOutB Tryd.prog = true) {W' : World} (hb : Below W.heap.size W W') : ∀ {ts : List TypeId} {vs : List Value} {ds : List (DataW H)} {ps : List MemPlace},
    (ts.all fun t => Tryd.prog.readableRec t && decide (t < Tryd.prog.types.size)) = true → DataW.TrodAll enc Tryd.prog W 0 (fun _ => true) true ts vs ds ps → (∀ x ∈ ps, x.block < W.heap.size) →
    DataW.TrodAll enc Tryd.prog W' 0 (fun b => decide (b < W.heap.size)) true ts vs ds ps := by
  intro ts
  induction ts with
  | nil => intro vs ds ps _ h _; obtain ⟨rfl, rfl, rfl⟩ := Go.ChangeShapes.trodAll_nil h; rfl
  | cons t ts ih =>
    intro vs ds ps ht h hlt
    obtain ⟨v, vs', d, ds', p, q, rfl, rfl, rfl, h1, h2⟩ := Go.ChangeShapes.trodAll_cons h
    simp only [List.all_cons, Bool.and_eq_true, decide_eq_true_eq] at ht
    exact ⟨p, q, Below.trod hl ht.1.1 ht.1.2 h1 hb (fun x hx => hlt x (List.mem_append_left _ hx)), ih (by simpa using ht.2) h2 (fun x hx => hlt x (List.mem_append_right _ hx)), rfl⟩
end
end Go.Proofs.YtkimmlhcaanfjaaDoor
namespace Go.Proofs.YtkimmlhcaanfjaaDoor
theorem changeAndS {H : Type} {enc : TypeId × Value → H} {a : Assume} {C : Checked} {os : Os} {f : FuncId} {fn : Func} {s : ChangeSpec} {conds : List PathCond} {apart fresh handsOn again : Bool} {X : World → Array Value → Prop}
    (hX : ∀ (w w' : World) (args : Array Value), w.heap = w'.heap → X w args → X w' args)
    (own : ownKnob C.prog.godebug = none) (started : os.Started) (noInit : C.prog.inits.idxOf? f = none) (hfn : C.prog.funcs[f]? = some fn)
    (witness : ∃ (w : World) (tape : Tape) (i : Input), w.os = os ∧ (w.forCall tape i).Shaped C.prog ∧ i.vars = [] ∧ Input.okWide C.prog (w.forCall tape i) .any w.heap.size f i ∧
      ((s.pre enc C.prog fn conds apart (w.forCall tape i).memory i.args ∧ X (w.forCall tape i).memory i.args) ∧ sizedMet enc C.prog fn (OpenSpec.ofChange s) apart (w.forCall tape i).memory i.args) ∧ a.holds C.prog (lone (Frame.enter C.prog f i.args .normal) [] (w.forCall tape i)))
    (contract : ∀ (W : World) (base : Nat) (args : Array Value) (ds gs : List (DataW H)) (before : List MemPlace),
      (∀ (j : Nat) t v, fn.params[j]? = some t → args[j]? = some v → Value.okWide C.prog W .any base t v) →
      DataW.Whole enc C.prog fn.params.toList s.vars apart W args.toList ds gs before →
      conds.all (PathCond.test C.prog ⟨fn.params.toList, ds, s.plain.varTypes C.prog, gs⟩) = true →
      (DataW.weightsEach C.prog (fn.params.toList ++ s.plain.varTypes C.prog) (ds ++ gs)).all (· ≤ reachBytes) = true → X W args → W.ShapedOpen C.prog →
      a.holds C.prog (lone (Frame.enter C.prog f args .normal) [] W) →
      Calls C.prog f args W fun e W' => ∃ v, e = .returned v ∧ s.post enc C.prog fn apart fresh handsOn again W args v W') :
    ReturnsInHanded a C os f .any (fun w args => (s.pre enc C.prog fn conds apart w args ∧ X w args) ∧ sizedMet enc C.prog fn (OpenSpec.ofChange s) apart w args) (s.post enc C.prog fn apart fresh handsOn again) := by
  refine returnsInHanded_of_calls own started noInit witness ?_
  intro w tape i _ hsh _ hok hpre hholds
  obtain ⟨_, _, _, fn', hfn', _, _, _, _, hval⟩ := hok
  have e : fn' = fn := Option.some.inj (hfn'.symm.trans hfn)
  subst e
  obtain ⟨⟨⟨ds, gs, before, hw, hc⟩, hx⟩, hz⟩ := hpre
  have hw' := DataW.Whole.of_heap (w' := w.forCall tape i) (by rfl) hw
  refine (contract (w.forCall tape i) w.heap.size i.args ds gs before hval hw' hc (hz.weights hw) (hX _ _ _ (by rfl) hx) hsh hholds).mono fun e W' ⟨v, he, hp⟩ => ?_
  subst he
  exact ChangeSpec.post_blind hp
end Go.Proofs.YtkimmlhcaanfjaaDoor
