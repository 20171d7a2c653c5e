/-
  Library functions on slices of slices of numbers: ContainsFunc, Clone, Reverse. No statement of the seat is proved here.
-/
import Derived.Test.YtmclgfipdgmomaaIdx
import Derived.Test.YtmclgfipdgmomaaFx
namespace Go.Proofs.Ytmclgfipdgmomaa
open Go.RowKit

set_option maxRecDepth 100000 in
set_option maxHeartbeats 4000000 in
theorem indexF_tab_sat (v : Value) (N : Nat) (e : Nat → Value) (p : Nat → Bool) (g : FuncId) (cs : Array Value) (w : World) (h : Sl w v 1 N e) (hf : ∀ k, k < N → ∀ w1, Below w.heap.size w w1 → SatV Try.prog g (e k :: cs.toList) w1 (.bool (p k))) :
    Sat Try.prog 69 [v, .func (.func g) #[] cs] w (IdxR p N) := by
  have hN := h.bound
  refine SatL.of 19 [4] Try.func69 (by kernel_rfl) (by kernel_rfl) rfl rfl rfl rfl ?_
  repeat' (first | (apply OK_seq) | (apply thenQ_n) | (apply OK_region) | (apply OKx_nilK) | (apply OK_block) | (apply blockQ_n) | (apply blockQ_s) | (apply thenQ_e) | (apply blockQ_e; (focus exact rfl)) | (apply thenQ_r) | (apply blockQ_r) | (apply OK_condT; (focus exact rfl)) | (apply OK_condF; (focus exact rfl)) | (apply OK_skip) | (apply OK_exit) | (apply OK_ret) | (apply OKx_move; (focus ((conv => lhs; whnf) <;> exact rfl))) | (apply OKx_assign; (focus ((conv => lhs; whnf) <;> exact rfl))) | (apply OKx_ldB; (focus exact rfl); (focus first | exact at0 | exact at1 | exact at2 | exact at3 | exact at4 | exact at5 | exact at6 | exact at7); (focus exact rfl)) | (apply OKx_ldR; (focus ((conv => lhs; whnf) <;> exact rfl)); (focus with_reducible assumption)) | (apply OKx_len; (focus exact rfl)) | (apply OKx_lenR; (focus ((conv => lhs; whnf) <;> exact rfl)); (focus with_reducible assumption)) | (apply OKx_lenR2; (focus ((conv => lhs; whnf) <;> exact rfl)); (focus with_reducible assumption)) | (apply OKx_lenO; (focus ((conv => lhs; whnf) <;> exact rfl)); (focus first | exact at0 | exact at1 | exact at2 | exact at3 | exact at4 | exact at5 | exact at6 | exact at7)) | (apply OKx_lss; (focus exact rfl); (focus exact rfl); all_goals (intro _; try (exfalso; omega))) | (apply OKx_idxO; (focus exact rfl); (focus exact rfl); (focus omega)) | (apply OKx_idxR; (focus ((conv => lhs; whnf) <;> exact rfl)); (focus with_reducible assumption); (focus exact rfl); (focus omega); intro _ _) | (apply OKx_idxOz; (focus exact rfl); (focus exact rfl); (focus omega); (focus omega)) | (apply OKx_idxRz; (focus ((conv => lhs; whnf) <;> exact rfl)); (focus with_reducible assumption); (focus exact rfl); (focus omega); (focus omega); intro _ _) | (apply OKx_inc; (focus exact rfl); (focus exact rfl); (focus omega)) | (apply OKx_addN; (focus exact rfl); (focus exact rfl); (focus omega)) | (apply OKx_add; (focus exact rfl); (focus exact rfl); (focus omega); (focus omega)))
  refine OK_loop1 8 [4, 5, 8, 9, 10, 11, 12, 13, 14, 15, 16, 17, 18] (fun m v L => ∃ k : Nat, k + m = N ∧ v = .int .i64 (k : Int) ∧ (∀ j, j < k → p j = false) ∧ L = []) N [] (Ent.refl _ _) ⟨0, by omega, rfl, fun j hj => absurd hj (by omega), rfl⟩ ?_
  rintro m v' L G ⟨k, hm, rfl, H, rfl⟩
  repeat' (first | (apply OK_seq) | (apply thenQ_n) | (apply OK_region) | (refine OKx_callB (f := g) rfl rfl rfl (fun w hp => hf k (by omega) w hp.below) ?_ ?_ <;> intro hq) | (apply OKx_nilK) | (apply OK_block) | (apply blockQ_n) | (apply blockQ_s) | (apply thenQ_e) | (apply blockQ_e; (focus exact rfl)) | (apply thenQ_r) | (apply blockQ_r) | (apply OK_condT; (focus exact rfl)) | (apply OK_condF; (focus exact rfl)) | (apply OK_skip) | (apply OK_exit) | (apply OK_ret) | (apply OKx_move; (focus ((conv => lhs; whnf) <;> exact rfl))) | (apply OKx_assign; (focus ((conv => lhs; whnf) <;> exact rfl))) | (apply OKx_ldB; (focus exact rfl); (focus first | exact at0 | exact at1 | exact at2 | exact at3 | exact at4 | exact at5 | exact at6 | exact at7); (focus exact rfl)) | (apply OKx_ldR; (focus ((conv => lhs; whnf) <;> exact rfl)); (focus with_reducible assumption)) | (apply OKx_len; (focus exact rfl)) | (apply OKx_lenR; (focus ((conv => lhs; whnf) <;> exact rfl)); (focus with_reducible assumption)) | (apply OKx_lenR2; (focus ((conv => lhs; whnf) <;> exact rfl)); (focus with_reducible assumption)) | (apply OKx_lenO; (focus ((conv => lhs; whnf) <;> exact rfl)); (focus first | exact at0 | exact at1 | exact at2 | exact at3 | exact at4 | exact at5 | exact at6 | exact at7)) | (apply OKx_lss; (focus exact rfl); (focus exact rfl); all_goals (intro _; try (exfalso; omega))) | (apply OKx_idxO; (focus exact rfl); (focus exact rfl); (focus omega)) | (apply OKx_idxR; (focus ((conv => lhs; whnf) <;> exact rfl)); (focus with_reducible assumption); (focus exact rfl); (focus omega); intro _ _) | (apply OKx_idxOz; (focus exact rfl); (focus exact rfl); (focus omega); (focus omega)) | (apply OKx_idxRz; (focus ((conv => lhs; whnf) <;> exact rfl)); (focus with_reducible assumption); (focus exact rfl); (focus omega); (focus omega); intro _ _) | (apply OKx_inc; (focus exact rfl); (focus exact rfl); (focus omega)) | (apply OKx_addN; (focus exact rfl); (focus exact rfl); (focus omega)) | (apply OKx_add; (focus exact rfl); (focus exact rfl); (focus omega); (focus omega)))
  · first | refine bodyQ_r1 (by ((conv => lhs; whnf) <;> exact rfl)) ?_ | refine bodyQ_r2 (by ((conv => lhs; whnf) <;> exact rfl)) (by ((conv => lhs; whnf) <;> exact rfl)) ?_ | refine bodyQ_r3 (by ((conv => lhs; whnf) <;> exact rfl)) (by ((conv => lhs; whnf) <;> exact rfl)) (by ((conv => lhs; whnf) <;> exact rfl)) ?_ | refine bodyQ_r0 ?_ | refine bodyQ_n0 ?_
    exact ⟨_, Ent.refl _ _, _, rfl, rfl, by rw [anyN_hit (by omega) hq, decide_eq_true (by omega)]⟩
  · refine ⟨by (repeat' (first | refine agree_upd rfl ?_ | exact agree_over | exact agree_refl _ _ | refine agree_over2 rfl ?_)), m - 1, _, by omega, Ent.refl _ _, ?_⟩
    refine ⟨k + 1, by omega, rfl, fun j hj => ?_, rfl⟩
    by_cases hjk : j < k
    · exact H j hjk
    · obtain rfl : j = k := by omega
      exact hq
  · first | refine bodyQ_r1 (by ((conv => lhs; whnf) <;> exact rfl)) ?_ | refine bodyQ_r2 (by ((conv => lhs; whnf) <;> exact rfl)) (by ((conv => lhs; whnf) <;> exact rfl)) ?_ | refine bodyQ_r3 (by ((conv => lhs; whnf) <;> exact rfl)) (by ((conv => lhs; whnf) <;> exact rfl)) (by ((conv => lhs; whnf) <;> exact rfl)) ?_ | refine bodyQ_r0 ?_ | refine bodyQ_n0 ?_
    exact ⟨_, Ent.refl _ _, _, rfl, rfl, by rw [anyN_none fun j hj => H j (by omega)]; rfl⟩
set_option maxRecDepth 100000 in
set_option maxHeartbeats 4000000 in
theorem containsF_tab_sat (v : Value) (N : Nat) (e : Nat → Value) (p : Nat → Bool) (g : FuncId) (cs : Array Value) (w : World) (h : Sl w v 1 N e) (hf : ∀ k, k < N → ∀ w1, Below w.heap.size w w1 → SatV Try.prog g (e k :: cs.toList) w1 (.bool (p k))) :
    SatV Try.prog 31 [v, .func (.func g) #[] cs] w (.bool (anyN p N)) := by
  refine SatL.of 9 [4] Try.func31 (by kernel_rfl) (by kernel_rfl) rfl rfl rfl rfl ?_
  repeat' (first | (apply OK_seq) | (apply thenQ_n) | (apply OK_region) | (refine OKx_call (f := 69) rfl rfl (fun w hp => indexF_tab_sat v N e p g cs w (h.below hp.below) (fun k hk w1 hb => hf k hk w1 (below_on hp.below hb))) ?_; rintro _ _ ⟨i, rfl, rfl, hi⟩) | (apply OKx_nilK) | (apply OK_block) | (apply blockQ_n) | (apply blockQ_s) | (apply thenQ_e) | (apply blockQ_e; (focus exact rfl)) | (apply thenQ_r) | (apply blockQ_r) | (apply OK_condT; (focus exact rfl)) | (apply OK_condF; (focus exact rfl)) | (apply OK_skip) | (apply OK_exit) | (apply OK_ret) | (apply OKx_move; (focus ((conv => lhs; whnf) <;> exact rfl))) | (apply OKx_assign; (focus ((conv => lhs; whnf) <;> exact rfl))) | (apply OKx_geq; (focus exact rfl); (focus exact rfl); all_goals (intro _; try (exfalso; omega))))
  all_goals
    first | refine bodyQ_r1 (by ((conv => lhs; whnf) <;> exact rfl)) ?_ | refine bodyQ_r2 (by ((conv => lhs; whnf) <;> exact rfl)) (by ((conv => lhs; whnf) <;> exact rfl)) ?_ | refine bodyQ_r3 (by ((conv => lhs; whnf) <;> exact rfl)) (by ((conv => lhs; whnf) <;> exact rfl)) (by ((conv => lhs; whnf) <;> exact rfl)) ?_ | refine bodyQ_r0 ?_ | refine bodyQ_n0 ?_
    exact ⟨_, Ent.refl _ _, bool_eq (by rw [hi]; simp; omega), rfl⟩

section
variable {P : Program} {n : Nat} {w0 : World} {K : Fm → List Res → Prop} {F : Fm} {L : List Res} {m : Md} {ops : Array Oper} {rest : List Oper} {d : Option Nat} {ty : TypeId} {pos : String} {aft : Array Edge}
/-- 's == nil', s nil. -/
theorem OKx_eqNilT {t ut e sz bytes : Nat} {z : Value} [T : TSlice P t e sz bytes z] {x y : Operand} {k c : Nat} (hx : rv n F x = .slice none k c) (hy : rv n F y = .slice none 0 0)
    (kk : OKx P n w0 m ops K rest (updo F d (.bool true)) L) : OKx P n w0 m ops K (⟨d, .binOp .eql t x y ut, ty, pos, aft, none⟩ :: rest) F L :=
  OKx_still (fun w _ _ _ _ _ => by
    have h := Lib.run_eql_slice_nil (P := P) w t e none k c 0 0 T.ty.und
    have hg : (eqGuard .eql t x y (.slice none k c) (.slice none 0 0)).run P w = .ok () w := by simp [eqGuard]
    simp [execOp, hx, hy, Sem.run_bind, hg, h, Result.andThen]) kk
end

set_option maxRecDepth 100000 in
set_option maxHeartbeats 4000000 in
theorem clone_tab_sat (v : Value) (N : Nat) (f : Nat → Value) (w : World) (h : Sl w v 1 N f) (h1 : ∀ j, j < N → (f j).oneCell' = true) (h8 : N ≤ 1000000) :
    Sat Try.prog 33 [v] w (fun u L => L = [.row 27 1 u N ((List.range N).map f)]) := by
  have hsl := h
  obtain ⟨_, ⟨a, cap, rfl, hc⟩, _⟩ := h
  cases a with
  | none =>
    have hN : N = 0 := by
      rcases hc with h0 | ⟨b, off, hb, _⟩
      · exact h0
      · cases hb
    subst hN
    refine SatL.of 8 [2] Try.func33 (by kernel_rfl) (by kernel_rfl) rfl rfl rfl rfl ?_
    repeat' (first | (apply OK_seq) | (apply thenQ_n) | (apply OK_region) | (apply OKx_eqNilT; (focus exact rfl); (focus exact rfl)) | (apply OKx_nilK) | (apply OK_block) | (apply blockQ_n) | (apply blockQ_s) | (apply thenQ_e) | (apply blockQ_e; (focus exact rfl)) | (apply thenQ_r) | (apply blockQ_r) | (apply OK_condT; (focus exact rfl)) | (apply OK_condF; (focus exact rfl)) | (apply OK_skip) | (apply OK_exit) | (apply OK_ret) | (apply OKx_move; (focus ((conv => lhs; whnf) <;> exact rfl))) | (apply OKx_assign; (focus ((conv => lhs; whnf) <;> exact rfl))) | (apply OKx_eql; (focus exact rfl); (focus exact rfl); all_goals (intro _; try (exfalso; omega))) | (apply OKx_slit0; intro _))
    first | refine bodyQ_r1 (by ((conv => lhs; whnf) <;> exact rfl)) ?_ | refine bodyQ_r2 (by ((conv => lhs; whnf) <;> exact rfl)) (by ((conv => lhs; whnf) <;> exact rfl)) ?_ | refine bodyQ_r3 (by ((conv => lhs; whnf) <;> exact rfl)) (by ((conv => lhs; whnf) <;> exact rfl)) (by ((conv => lhs; whnf) <;> exact rfl)) ?_ | refine bodyQ_r0 ?_ | refine bodyQ_n0 ?_
    exact ⟨_, Ent.mk fun w1 hp => hp.none.nil 27 1, rfl⟩
  | some a =>
    refine SatL.of 8 [2] Try.func33 (by kernel_rfl) (by kernel_rfl) rfl rfl rfl rfl ?_
    repeat' (first | (apply OK_seq) | (apply thenQ_n) | (apply OK_region) | (apply OKx_eqNilF; (focus exact rfl); (focus exact rfl)) | (refine OKx_appSl 0 (xs := []) rfl rfl rfl hsl (fun j hj => h1 j (by omega)) (by omega) (by omega) ?_; intro v2; rw [Nat.zero_add, Nat.mul_one, List.nil_append, List.set_cons_zero]) | (apply OKx_nilK) | (apply OK_block) | (apply blockQ_n) | (apply blockQ_s) | (apply thenQ_e) | (apply blockQ_e; (focus exact rfl)) | (apply thenQ_r) | (apply blockQ_r) | (apply OK_condT; (focus exact rfl)) | (apply OK_condF; (focus exact rfl)) | (apply OK_skip) | (apply OK_exit) | (apply OK_ret) | (apply OKx_move; (focus ((conv => lhs; whnf) <;> exact rfl))) | (apply OKx_assign; (focus ((conv => lhs; whnf) <;> exact rfl))) | (apply OKx_eql; (focus exact rfl); (focus exact rfl); all_goals (intro _; try (exfalso; omega))) | (apply OKx_slit0; intro _))
    first | refine bodyQ_r1 (by ((conv => lhs; whnf) <;> exact rfl)) ?_ | refine bodyQ_r2 (by ((conv => lhs; whnf) <;> exact rfl)) (by ((conv => lhs; whnf) <;> exact rfl)) ?_ | refine bodyQ_r3 (by ((conv => lhs; whnf) <;> exact rfl)) (by ((conv => lhs; whnf) <;> exact rfl)) (by ((conv => lhs; whnf) <;> exact rfl)) ?_ | refine bodyQ_r0 ?_ | refine bodyQ_n0 ?_
    exact ⟨_, Ent.pick [0] rfl, rfl⟩

/-- The first i and the last i are swapped. -/
def rvK (vs us : List Value) (i : Nat) : Prop := us.length = vs.length ∧ ∀ p, p < vs.length → us.getD p undef = if p < i ∨ vs.length ≤ p + i then vs.getD (vs.length - 1 - p) undef else vs.getD p undef
theorem rvK_zero (vs : List Value) : rvK vs vs 0 := ⟨rfl, fun p hp => by rw [if_neg (by omega)]⟩
theorem getD_set {α : Type} (l : List α) (i j : Nat) (v d : α) (hj : j < l.length) : (l.set i v).getD j d = if i = j then v else l.getD j d := by
  rw [List.getD_eq_getElem?_getD, List.getElem?_set, List.getD_eq_getElem?_getD]
  split
  · rename_i h; subst h; rw [if_pos hj]; rfl
  · rfl
theorem rvK_step (vs us : List Value) (i : Nat) (h : rvK vs us i) (hi : i + 1 + i < vs.length) : rvK vs ((us.set i (us.getD (vs.length - 1 - i) undef)).set (vs.length - 1 - i) (us.getD i undef)) (i + 1) := by
  obtain ⟨hl, h⟩ := h
  refine ⟨by simp [hl], fun p hp => ?_⟩
  rw [getD_set _ _ _ _ _ (by rw [List.length_set]; omega), getD_set _ _ _ _ _ (by omega)]
  have h1 := h p hp
  have h2 := h i (by omega)
  have h3 := h (vs.length - 1 - i) (by omega)
  rw [if_neg (by omega)] at h2 h3
  by_cases e1 : vs.length - 1 - i = p
  · rw [if_pos e1, if_pos (by omega), h2]
    congr 1; omega
  · rw [if_neg e1]
    by_cases e2 : i = p
    · rw [if_pos e2, if_pos (by omega), h3]
      congr 1; omega
    · rw [if_neg e2, h1]
      by_cases e3 : p < i ∨ vs.length ≤ p + i
      · rw [if_pos e3, if_pos (by omega)]
      · rw [if_neg e3, if_neg (by omega)]
theorem rvK_end (vs us : List Value) (i : Nat) (h : rvK vs us i) (hi : vs.length ≤ i + i + 1) : us = vs.reverse := by
  obtain ⟨hl, h⟩ := h
  refine List.ext_getElem (by simp [hl]) fun p h1 h2 => ?_
  have h3 := h p (by omega)
  rw [getD_lt _ _ _ h1] at h3
  rw [h3, List.getElem_reverse]
  have h4 : p < vs.length := by omega
  split
  · rw [getD_lt _ _ _ (by omega)]
  · rw [getD_lt _ _ _ h4]
    congr 1
    omega
theorem getO {α : Type} (l : List α) (i : Nat) (d : α) (h : i < l.length) : l[i]? = some (l.getD i d) := by
  rw [getD_lt _ _ _ h]; exact List.getElem?_eq_getElem h
set_option maxRecDepth 100000 in
set_option maxHeartbeats 4000000 in
theorem reverse_tab_sat (a : Option Addr) (n c : Nat) (vs : List Value) (Z : List Res) (w : World) (hn : vs.length = n) (hn8 : n ≤ 1000000) (ha : 0 < n → ∃ g, a = some ⟨g, 0, none⟩) (h1 : ∀ j, j < n → (vs.getD j undef).oneCell' = true ∧ (vs.getD j undef).cells = #[vs.getD j undef]) :
    SatL Try.prog 34 [.slice a n c] w (.row 27 1 (.slice a n c) n vs :: Z) (fun u L' => u = .tuple #[] ∧ L' = .row 27 1 (.slice a n c) n vs.reverse :: Z) := by
  refine SatL.of 28 [] Try.func34 (by kernel_rfl) (by kernel_rfl) rfl rfl rfl rfl ?_
  repeat' (first | (apply OK_seq) | (apply thenQ_n) | (apply OK_region) | refine OK_mix [2, 3] [0, 1, 4, 5, 6, 7, 8, 9, 10, 11, 12] [] [13, 14, 15] [] (id := 3) (by kernel_rfl) (by kernel_rfl) rfl (Ent.nil) (by ((try simp only [pickO, nthO, List.cons_append, List.nil_append, List.append_nil]) <;> exact rfl)) (by ((try simp only [pickO, nthO, List.cons_append, List.nil_append, List.append_nil]) <;> exact rfl)) (by ((try simp only [pickO, nthO, List.cons_append, List.nil_append, List.append_nil]) <;> exact rfl)) (by ((try simp only [pickO, nthO, List.cons_append, List.nil_append, List.append_nil]) <;> exact rfl)) ?_ | (apply OKx_nilK) | (apply OK_block) | (apply blockQ_n) | (apply blockQ_s) | (apply thenQ_e) | (apply blockQ_e; (focus exact rfl)) | (apply thenQ_r) | (apply blockQ_r) | (apply OK_condT; (focus exact rfl)) | (apply OK_condF; (focus exact rfl)) | (apply OK_skip) | (apply OK_exit) | (apply OK_ret) | (apply OKx_move; (focus ((conv => lhs; whnf) <;> exact rfl))) | (apply OKx_assign; (focus ((conv => lhs; whnf) <;> exact rfl))) | (apply OKx_ldB; (focus exact rfl); (focus first | exact at0 | exact at1 | exact at2 | exact at3 | exact at4 | exact at5 | exact at6 | exact at7); (focus exact rfl)) | (apply OKx_ldR; (focus ((conv => lhs; whnf) <;> exact rfl)); (focus with_reducible assumption)) | (apply OKx_len; (focus exact rfl)) | (apply OKx_lenR; (focus ((conv => lhs; whnf) <;> exact rfl)); (focus with_reducible assumption)) | (apply OKx_lenR2; (focus ((conv => lhs; whnf) <;> exact rfl)); (focus with_reducible assumption)) | (apply OKx_lenO; (focus ((conv => lhs; whnf) <;> exact rfl)); (focus first | exact at0 | exact at1 | exact at2 | exact at3 | exact at4 | exact at5 | exact at6 | exact at7)) | (apply OKx_lss; (focus exact rfl); (focus exact rfl); all_goals (intro _; try (exfalso; omega))) | (apply OKx_idxO; (focus exact rfl); (focus exact rfl); (focus omega)) | (apply OKx_idxR; (focus ((conv => lhs; whnf) <;> exact rfl)); (focus with_reducible assumption); (focus exact rfl); (focus omega); intro _ _) | (apply OKx_idxOz; (focus exact rfl); (focus exact rfl); (focus omega); (focus omega)) | (apply OKx_idxRz; (focus ((conv => lhs; whnf) <;> exact rfl)); (focus with_reducible assumption); (focus exact rfl); (focus omega); (focus omega); intro _ _) | (apply OKx_inc; (focus exact rfl); (focus exact rfl); (focus omega)) | (apply OKx_addN; (focus exact rfl); (focus exact rfl); (focus omega)) | (apply OKx_add; (focus exact rfl); (focus exact rfl); (focus omega); (focus omega)) | (apply OKx_dec; (focus exact rfl); (focus exact rfl); (focus omega); (focus omega)) | (apply OKx_subN; (focus exact rfl); (focus exact rfl); (focus omega); (focus omega)) | (apply OKx_sub; (focus exact rfl); (focus exact rfl); (focus omega); (focus omega)) | (apply OKx_stB; (focus exact rfl); (focus ((conv => lhs; whnf) <;> exact rfl)); (focus exact rfl); (focus exact rfl); (focus first | exact at0 | exact at1 | exact at2 | exact at3 | exact at4 | exact at5 | exact at6 | exact at7); (focus exact rfl); (focus exact rfl); (focus exact rfl)))
  refine OK_loop2 2 3 [2, 3, 7, 8, 9, 10, 11, 12, 13, 14, 15, 16, 17, 18, 19, 20, 21, 22, 23, 24, 25, 26, 27] (fun m u v L => ∃ (i : Nat) (z : Int) (us : List Value), i + m = n + 1 ∧ z = (n : Int) - 1 - i ∧ rvK vs us i ∧ (∀ j, j < n → (us.getD j undef).oneCell' = true ∧ (us.getD j undef).cells = #[us.getD j undef]) ∧ u = .int .i64 (i : Int) ∧ v = .int .i64 z ∧ L = .row 27 1 (.slice a n c) n us :: Z) (n + 1) _ (Ent.refl _ _) ⟨0, (n : Int) - 1 - (0 : Nat), vs, by omega, rfl, rvK_zero vs, h1, rfl, int_eq (by omega), rfl⟩ ?_
  rintro m u v L G ⟨i, z, us, hm, hz, hk, ho, rfl, rfl, rfl⟩
  by_cases hi : i + 1 + i < n
  · obtain ⟨g, rfl⟩ := ha (by omega)
    obtain ⟨j, rfl⟩ : ∃ j : Nat, z = (j : Int) := ⟨n - 1 - i, by omega⟩
    have hs := rvK_step vs us i hk (by omega)
    have hul := hk.1
    have hoi := ho i (by omega)
    have hoj := ho j (by omega)
    have ej : vs.length - 1 - i = j := by omega
    rw [ej] at hs
    have hgi := getO us i undef (by omega)
    have hgj := getO us j undef (by omega)
    repeat' (first | (apply OK_seq) | (apply thenQ_n) | (apply OK_region) | (refine OKx_ldW 0 rfl rfl (by omega) hgi ?_) | (refine OKx_ldW 0 rfl rfl (by omega) hgj ?_) | (refine OKx_stW 0 rfl rfl hoj.1 hoj.2 rfl (by omega) rfl rfl ?_) | (refine OKx_stW 0 rfl rfl hoi.1 hoi.2 rfl (by omega) rfl rfl ?_) | refine OK_mix [2, 3] [0, 1, 4, 5, 6, 7, 8, 9, 10, 11, 12] [] [13, 14, 15] [] (id := 3) (by kernel_rfl) (by kernel_rfl) rfl (Ent.nil) (by ((try simp only [pickO, nthO, List.cons_append, List.nil_append, List.append_nil]) <;> exact rfl)) (by ((try simp only [pickO, nthO, List.cons_append, List.nil_append, List.append_nil]) <;> exact rfl)) (by ((try simp only [pickO, nthO, List.cons_append, List.nil_append, List.append_nil]) <;> exact rfl)) (by ((try simp only [pickO, nthO, List.cons_append, List.nil_append, List.append_nil]) <;> exact rfl)) ?_ | (apply OKx_nilK) | (apply OK_block) | (apply blockQ_n) | (apply blockQ_s) | (apply thenQ_e) | (apply blockQ_e; (focus exact rfl)) | (apply thenQ_r) | (apply blockQ_r) | (apply OK_condT; (focus exact rfl)) | (apply OK_condF; (focus exact rfl)) | (apply OK_skip) | (apply OK_exit) | (apply OK_ret) | (apply OKx_move; (focus ((conv => lhs; whnf) <;> exact rfl))) | (apply OKx_assign; (focus ((conv => lhs; whnf) <;> exact rfl))) | (apply OKx_ldB; (focus exact rfl); (focus first | exact at0 | exact at1 | exact at2 | exact at3 | exact at4 | exact at5 | exact at6 | exact at7); (focus exact rfl)) | (apply OKx_ldR; (focus ((conv => lhs; whnf) <;> exact rfl)); (focus with_reducible assumption)) | (apply OKx_len; (focus exact rfl)) | (apply OKx_lenR; (focus ((conv => lhs; whnf) <;> exact rfl)); (focus with_reducible assumption)) | (apply OKx_lenR2; (focus ((conv => lhs; whnf) <;> exact rfl)); (focus with_reducible assumption)) | (apply OKx_lenO; (focus ((conv => lhs; whnf) <;> exact rfl)); (focus first | exact at0 | exact at1 | exact at2 | exact at3 | exact at4 | exact at5 | exact at6 | exact at7)) | (apply OKx_lss; (focus exact rfl); (focus exact rfl); all_goals (intro _; try (exfalso; omega))) | (apply OKx_idxO; (focus exact rfl); (focus exact rfl); (focus omega)) | (apply OKx_idxR; (focus ((conv => lhs; whnf) <;> exact rfl)); (focus with_reducible assumption); (focus exact rfl); (focus omega); intro _ _) | (apply OKx_idxOz; (focus exact rfl); (focus exact rfl); (focus omega); (focus omega)) | (apply OKx_idxRz; (focus ((conv => lhs; whnf) <;> exact rfl)); (focus with_reducible assumption); (focus exact rfl); (focus omega); (focus omega); intro _ _) | (apply OKx_inc; (focus exact rfl); (focus exact rfl); (focus omega)) | (apply OKx_addN; (focus exact rfl); (focus exact rfl); (focus omega)) | (apply OKx_add; (focus exact rfl); (focus exact rfl); (focus omega); (focus omega)) | (apply OKx_dec; (focus exact rfl); (focus exact rfl); (focus omega); (focus omega)) | (apply OKx_subN; (focus exact rfl); (focus exact rfl); (focus omega); (focus omega)) | (apply OKx_sub; (focus exact rfl); (focus exact rfl); (focus omega); (focus omega)) | (apply OKx_stB; (focus exact rfl); (focus ((conv => lhs; whnf) <;> exact rfl)); (focus exact rfl); (focus exact rfl); (focus first | exact at0 | exact at1 | exact at2 | exact at3 | exact at4 | exact at5 | exact at6 | exact at7); (focus exact rfl); (focus exact rfl); (focus exact rfl)))
    refine ⟨by (repeat' (first | refine agree_upd rfl ?_ | exact agree_over | exact agree_refl _ _ | refine agree_over2 rfl ?_)), m - 1, _, by omega, Ent.refl _ _, ?_⟩
    refine ⟨i + 1, (j : Int) - 1, _, by omega, by omega, hs, fun p hp => ?_, rfl, int_eq (by omega), rfl⟩
    rw [getD_set _ _ _ _ _ (by rw [List.length_set]; omega), getD_set _ _ _ _ _ (by omega)]
    split
    · exact hoi
    · split
      · exact hoj
      · exact ho p hp
  · repeat' (first | (apply OK_seq) | (apply thenQ_n) | (apply OK_region) | refine OK_mix [2, 3] [0, 1, 4, 5, 6, 7, 8, 9, 10, 11, 12] [] [13, 14, 15] [] (id := 3) (by kernel_rfl) (by kernel_rfl) rfl (Ent.nil) (by ((try simp only [pickO, nthO, List.cons_append, List.nil_append, List.append_nil]) <;> exact rfl)) (by ((try simp only [pickO, nthO, List.cons_append, List.nil_append, List.append_nil]) <;> exact rfl)) (by ((try simp only [pickO, nthO, List.cons_append, List.nil_append, List.append_nil]) <;> exact rfl)) (by ((try simp only [pickO, nthO, List.cons_append, List.nil_append, List.append_nil]) <;> exact rfl)) ?_ | (apply OKx_nilK) | (apply OK_block) | (apply blockQ_n) | (apply blockQ_s) | (apply thenQ_e) | (apply blockQ_e; (focus exact rfl)) | (apply thenQ_r) | (apply blockQ_r) | (apply OK_condT; (focus exact rfl)) | (apply OK_condF; (focus exact rfl)) | (apply OK_skip) | (apply OK_exit) | (apply OK_ret) | (apply OKx_move; (focus ((conv => lhs; whnf) <;> exact rfl))) | (apply OKx_assign; (focus ((conv => lhs; whnf) <;> exact rfl))) | (apply OKx_ldB; (focus exact rfl); (focus first | exact at0 | exact at1 | exact at2 | exact at3 | exact at4 | exact at5 | exact at6 | exact at7); (focus exact rfl)) | (apply OKx_ldR; (focus ((conv => lhs; whnf) <;> exact rfl)); (focus with_reducible assumption)) | (apply OKx_len; (focus exact rfl)) | (apply OKx_lenR; (focus ((conv => lhs; whnf) <;> exact rfl)); (focus with_reducible assumption)) | (apply OKx_lenR2; (focus ((conv => lhs; whnf) <;> exact rfl)); (focus with_reducible assumption)) | (apply OKx_lenO; (focus ((conv => lhs; whnf) <;> exact rfl)); (focus first | exact at0 | exact at1 | exact at2 | exact at3 | exact at4 | exact at5 | exact at6 | exact at7)) | (apply OKx_lss; (focus exact rfl); (focus exact rfl); all_goals (intro _; try (exfalso; omega))) | (apply OKx_idxO; (focus exact rfl); (focus exact rfl); (focus omega)) | (apply OKx_idxR; (focus ((conv => lhs; whnf) <;> exact rfl)); (focus with_reducible assumption); (focus exact rfl); (focus omega); intro _ _) | (apply OKx_idxOz; (focus exact rfl); (focus exact rfl); (focus omega); (focus omega)) | (apply OKx_idxRz; (focus ((conv => lhs; whnf) <;> exact rfl)); (focus with_reducible assumption); (focus exact rfl); (focus omega); (focus omega); intro _ _) | (apply OKx_inc; (focus exact rfl); (focus exact rfl); (focus omega)) | (apply OKx_addN; (focus exact rfl); (focus exact rfl); (focus omega)) | (apply OKx_add; (focus exact rfl); (focus exact rfl); (focus omega); (focus omega)) | (apply OKx_dec; (focus exact rfl); (focus exact rfl); (focus omega); (focus omega)) | (apply OKx_subN; (focus exact rfl); (focus exact rfl); (focus omega); (focus omega)) | (apply OKx_sub; (focus exact rfl); (focus exact rfl); (focus omega); (focus omega)) | (apply OKx_stB; (focus exact rfl); (focus ((conv => lhs; whnf) <;> exact rfl)); (focus exact rfl); (focus exact rfl); (focus first | exact at0 | exact at1 | exact at2 | exact at3 | exact at4 | exact at5 | exact at6 | exact at7); (focus exact rfl); (focus exact rfl); (focus exact rfl)))
    first | refine bodyQ_r0 ?_ | refine bodyQ_n0 ?_
    exact ⟨_, Ent.refl _ _, rfl, by rw [rvK_end vs us i hk (by omega)]⟩
#print axioms reverse_tab_sat
end Go.Proofs.Ytmclgfipdgmomaa
