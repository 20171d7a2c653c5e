/-
  The statements of layer 38 on totals: sums, the reference's totals, the best further exemplar. No statement of the seat is proved here.
-/
import Derived.Test.YtmclgfipdgmomaaLa38
import Derived.Test.YtmclgfipdgmomaaRt38
import Derived.Test.YtmclgfipdgmomaaIdx
import Derived.Test.YtmclgfipdgmomaaFx
namespace Go.Proofs.Ytmclgfipdgmomaa
open Go.RowKit

set_option maxRecDepth 100000 in
set_option maxHeartbeats 4000000 in
theorem indexF_tab_sat (v : Value) (N : Nat) (e : Nat → Value) (p : Nat → Bool) (g : FuncId) (cs : Array Value) (w : World) (h : Sl w v 1 N e) (hf : ∀ k, k < N → ∀ w1, Below w.heap.size w w1 → SatV Try.prog g (e k :: cs.toList) w1 (.bool (p k))) :
    Sat Try.prog 69 [v, .func (.func g) #[] cs] w (IdxR p N) := by
  have hN := h.bound
  refine SatL.of 19 [4] Try.func69 (by kernel_rfl) (by kernel_rfl) rfl rfl rfl rfl ?_
  repeat' (first | (apply OK_seq) | (apply thenQ_n) | (apply OK_region) | (apply OKx_nilK) | (apply OK_block) | (apply blockQ_n) | (apply blockQ_s) | (apply thenQ_e) | (apply blockQ_e; (focus exact rfl)) | (apply thenQ_r) | (apply blockQ_r) | (apply OK_condT; (focus exact rfl)) | (apply OK_condF; (focus exact rfl)) | (apply OK_skip) | (apply OK_exit) | (apply OK_ret) | (apply OKx_move; (focus ((conv => lhs; whnf) <;> exact rfl))) | (apply OKx_assign; (focus ((conv => lhs; whnf) <;> exact rfl))) | (apply OKx_ldB; (focus exact rfl); (focus first | exact at0 | exact at1 | exact at2 | exact at3 | exact at4 | exact at5 | exact at6 | exact at7); (focus exact rfl)) | (apply OKx_ldR; (focus ((conv => lhs; whnf) <;> exact rfl)); (focus with_reducible assumption)) | (apply OKx_len; (focus exact rfl)) | (apply OKx_lenR; (focus ((conv => lhs; whnf) <;> exact rfl)); (focus with_reducible assumption)) | (apply OKx_lenR2; (focus ((conv => lhs; whnf) <;> exact rfl)); (focus with_reducible assumption)) | (apply OKx_lenO; (focus ((conv => lhs; whnf) <;> exact rfl)); (focus first | exact at0 | exact at1 | exact at2 | exact at3 | exact at4 | exact at5 | exact at6 | exact at7)) | (apply OKx_lss; (focus exact rfl); (focus exact rfl); all_goals (intro _; try (exfalso; omega))) | (apply OKx_idxO; (focus exact rfl); (focus exact rfl); (focus omega)) | (apply OKx_idxR; (focus ((conv => lhs; whnf) <;> exact rfl)); (focus with_reducible assumption); (focus exact rfl); (focus omega); intro _ _) | (apply OKx_idxOz; (focus exact rfl); (focus exact rfl); (focus omega); (focus omega)) | (apply OKx_idxRz; (focus ((conv => lhs; whnf) <;> exact rfl)); (focus with_reducible assumption); (focus exact rfl); (focus omega); (focus omega); intro _ _) | (apply OKx_inc; (focus exact rfl); (focus exact rfl); (focus omega)) | (apply OKx_addN; (focus exact rfl); (focus exact rfl); (focus omega)) | (apply OKx_add; (focus exact rfl); (focus exact rfl); (focus omega); (focus omega)))
  refine OK_loop1 8 [4, 5, 8, 9, 10, 11, 12, 13, 14, 15, 16, 17, 18] (fun m v L => ∃ k : Nat, k + m = N ∧ v = .int .i64 (k : Int) ∧ (∀ j, j < k → p j = false) ∧ L = []) N [] (Ent.refl _ _) ⟨0, by omega, rfl, fun j hj => absurd hj (by omega), rfl⟩ ?_
  rintro m v' L G ⟨k, hm, rfl, H, rfl⟩
  repeat' (first | (apply OK_seq) | (apply thenQ_n) | (apply OK_region) | (refine OKx_callB (f := g) rfl rfl rfl (fun w hp => hf k (by omega) w hp.below) ?_ ?_ <;> intro hq) | (apply OKx_nilK) | (apply OK_block) | (apply blockQ_n) | (apply blockQ_s) | (apply thenQ_e) | (apply blockQ_e; (focus exact rfl)) | (apply thenQ_r) | (apply blockQ_r) | (apply OK_condT; (focus exact rfl)) | (apply OK_condF; (focus exact rfl)) | (apply OK_skip) | (apply OK_exit) | (apply OK_ret) | (apply OKx_move; (focus ((conv => lhs; whnf) <;> exact rfl))) | (apply OKx_assign; (focus ((conv => lhs; whnf) <;> exact rfl))) | (apply OKx_ldB; (focus exact rfl); (focus first | exact at0 | exact at1 | exact at2 | exact at3 | exact at4 | exact at5 | exact at6 | exact at7); (focus exact rfl)) | (apply OKx_ldR; (focus ((conv => lhs; whnf) <;> exact rfl)); (focus with_reducible assumption)) | (apply OKx_len; (focus exact rfl)) | (apply OKx_lenR; (focus ((conv => lhs; whnf) <;> exact rfl)); (focus with_reducible assumption)) | (apply OKx_lenR2; (focus ((conv => lhs; whnf) <;> exact rfl)); (focus with_reducible assumption)) | (apply OKx_lenO; (focus ((conv => lhs; whnf) <;> exact rfl)); (focus first | exact at0 | exact at1 | exact at2 | exact at3 | exact at4 | exact at5 | exact at6 | exact at7)) | (apply OKx_lss; (focus exact rfl); (focus exact rfl); all_goals (intro _; try (exfalso; omega))) | (apply OKx_idxO; (focus exact rfl); (focus exact rfl); (focus omega)) | (apply OKx_idxR; (focus ((conv => lhs; whnf) <;> exact rfl)); (focus with_reducible assumption); (focus exact rfl); (focus omega); intro _ _) | (apply OKx_idxOz; (focus exact rfl); (focus exact rfl); (focus omega); (focus omega)) | (apply OKx_idxRz; (focus ((conv => lhs; whnf) <;> exact rfl)); (focus with_reducible assumption); (focus exact rfl); (focus omega); (focus omega); intro _ _) | (apply OKx_inc; (focus exact rfl); (focus exact rfl); (focus omega)) | (apply OKx_addN; (focus exact rfl); (focus exact rfl); (focus omega)) | (apply OKx_add; (focus exact rfl); (focus exact rfl); (focus omega); (focus omega)))
  · first | refine bodyQ_r1 (by ((conv => lhs; whnf) <;> exact rfl)) ?_ | refine bodyQ_r2 (by ((conv => lhs; whnf) <;> exact rfl)) (by ((conv => lhs; whnf) <;> exact rfl)) ?_ | refine bodyQ_r3 (by ((conv => lhs; whnf) <;> exact rfl)) (by ((conv => lhs; whnf) <;> exact rfl)) (by ((conv => lhs; whnf) <;> exact rfl)) ?_ | refine bodyQ_r0 ?_ | refine bodyQ_n0 ?_
    exact ⟨_, Ent.refl _ _, _, rfl, rfl, by rw [anyN_hit (by omega) hq, decide_eq_true (by omega)]⟩
  · refine ⟨by (repeat' (first | refine agree_upd rfl ?_ | exact agree_over | exact agree_refl _ _ | refine agree_over2 rfl ?_)), m - 1, _, by omega, Ent.refl _ _, ?_⟩
    refine ⟨k + 1, by omega, rfl, fun j hj => ?_, rfl⟩
    by_cases hjk : j < k
    · exact H j hjk
    · obtain rfl : j = k := by omega
      exact hq
  · first | refine bodyQ_r1 (by ((conv => lhs; whnf) <;> exact rfl)) ?_ | refine bodyQ_r2 (by ((conv => lhs; whnf) <;> exact rfl)) (by ((conv => lhs; whnf) <;> exact rfl)) ?_ | refine bodyQ_r3 (by ((conv => lhs; whnf) <;> exact rfl)) (by ((conv => lhs; whnf) <;> exact rfl)) (by ((conv => lhs; whnf) <;> exact rfl)) ?_ | refine bodyQ_r0 ?_ | refine bodyQ_n0 ?_
    exact ⟨_, Ent.refl _ _, _, rfl, rfl, by rw [anyN_none fun j hj => H j (by omega)]; rfl⟩
set_option maxRecDepth 100000 in
set_option maxHeartbeats 4000000 in
theorem containsF_tab_sat (v : Value) (N : Nat) (e : Nat → Value) (p : Nat → Bool) (g : FuncId) (cs : Array Value) (w : World) (h : Sl w v 1 N e) (hf : ∀ k, k < N → ∀ w1, Below w.heap.size w w1 → SatV Try.prog g (e k :: cs.toList) w1 (.bool (p k))) :
    SatV Try.prog 31 [v, .func (.func g) #[] cs] w (.bool (anyN p N)) := by
  refine SatL.of 9 [4] Try.func31 (by kernel_rfl) (by kernel_rfl) rfl rfl rfl rfl ?_
  repeat' (first | (apply OK_seq) | (apply thenQ_n) | (apply OK_region) | (refine OKx_call (f := 69) rfl rfl (fun w hp => indexF_tab_sat v N e p g cs w (h.below hp.below) (fun k hk w1 hb => hf k hk w1 (below_on hp.below hb))) ?_; rintro _ _ ⟨i, rfl, rfl, hi⟩) | (apply OKx_nilK) | (apply OK_block) | (apply blockQ_n) | (apply blockQ_s) | (apply thenQ_e) | (apply blockQ_e; (focus exact rfl)) | (apply thenQ_r) | (apply blockQ_r) | (apply OK_condT; (focus exact rfl)) | (apply OK_condF; (focus exact rfl)) | (apply OK_skip) | (apply OK_exit) | (apply OK_ret) | (apply OKx_move; (focus ((conv => lhs; whnf) <;> exact rfl))) | (apply OKx_assign; (focus ((conv => lhs; whnf) <;> exact rfl))) | (apply OKx_geq; (focus exact rfl); (focus exact rfl); all_goals (intro _; try (exfalso; omega))))
  all_goals
    first | refine bodyQ_r1 (by ((conv => lhs; whnf) <;> exact rfl)) ?_ | refine bodyQ_r2 (by ((conv => lhs; whnf) <;> exact rfl)) (by ((conv => lhs; whnf) <;> exact rfl)) ?_ | refine bodyQ_r3 (by ((conv => lhs; whnf) <;> exact rfl)) (by ((conv => lhs; whnf) <;> exact rfl)) (by ((conv => lhs; whnf) <;> exact rfl)) ?_ | refine bodyQ_r0 ?_ | refine bodyQ_n0 ?_
    exact ⟨_, Ent.refl _ _, bool_eq (by rw [hi]; simp; omega), rfl⟩

section
variable {P : Program} {n : Nat} {w0 : World} {K : Fm → List Res → Prop} {F : Fm} {L : List Res} {m : Md} {ops : Array Oper} {rest : List Oper} {d : Option Nat} {ty : TypeId} {pos : String} {aft : Array Edge}
/-- 's == nil', s nil. -/
theorem OKx_eqNilT {t ut e sz bytes : Nat} {z : Value} [T : TSlice P t e sz bytes z] {x y : Operand} {k c : Nat} (hx : rv n F x = .slice none k c) (hy : rv n F y = .slice none 0 0)
    (kk : OKx P n w0 m ops K rest (updo F d (.bool true)) L) : OKx P n w0 m ops K (⟨d, .binOp .eql t x y ut, ty, pos, aft, none⟩ :: rest) F L :=
  OKx_still (fun w _ _ _ _ _ => by
    have h := Lib.run_eql_slice_nil (P := P) w t e none k c 0 0 T.ty.und
    have hg : (eqGuard .eql t x y (.slice none k c) (.slice none 0 0)).run P w = .ok () w := by simp [eqGuard]
    simp [execOp, hx, hy, Sem.run_bind, hg, h, Result.andThen]) kk
end

set_option maxRecDepth 100000 in
set_option maxHeartbeats 4000000 in
theorem clone_tab_sat (v : Value) (N : Nat) (f : Nat → Value) (w : World) (h : Sl w v 1 N f) (h1 : ∀ j, j < N → (f j).oneCell' = true) (h8 : N ≤ 1000000) :
    Sat Try.prog 33 [v] w (fun u L => L = [.row 27 1 u N ((List.range N).map f)]) := by
  have hsl := h
  obtain ⟨_, ⟨a, cap, rfl, hc⟩, _⟩ := h
  cases a with
  | none =>
    have hN : N = 0 := by
      rcases hc with h0 | ⟨b, off, hb, _⟩
      · exact h0
      · cases hb
    subst hN
    refine SatL.of 8 [2] Try.func33 (by kernel_rfl) (by kernel_rfl) rfl rfl rfl rfl ?_
    repeat' (first | (apply OK_seq) | (apply thenQ_n) | (apply OK_region) | (apply OKx_eqNilT; (focus exact rfl); (focus exact rfl)) | (apply OKx_nilK) | (apply OK_block) | (apply blockQ_n) | (apply blockQ_s) | (apply thenQ_e) | (apply blockQ_e; (focus exact rfl)) | (apply thenQ_r) | (apply blockQ_r) | (apply OK_condT; (focus exact rfl)) | (apply OK_condF; (focus exact rfl)) | (apply OK_skip) | (apply OK_exit) | (apply OK_ret) | (apply OKx_move; (focus ((conv => lhs; whnf) <;> exact rfl))) | (apply OKx_assign; (focus ((conv => lhs; whnf) <;> exact rfl))) | (apply OKx_eql; (focus exact rfl); (focus exact rfl); all_goals (intro _; try (exfalso; omega))) | (apply OKx_slit0; intro _))
    first | refine bodyQ_r1 (by ((conv => lhs; whnf) <;> exact rfl)) ?_ | refine bodyQ_r2 (by ((conv => lhs; whnf) <;> exact rfl)) (by ((conv => lhs; whnf) <;> exact rfl)) ?_ | refine bodyQ_r3 (by ((conv => lhs; whnf) <;> exact rfl)) (by ((conv => lhs; whnf) <;> exact rfl)) (by ((conv => lhs; whnf) <;> exact rfl)) ?_ | refine bodyQ_r0 ?_ | refine bodyQ_n0 ?_
    exact ⟨_, Ent.mk fun w1 hp => hp.none.nil 27 1, rfl⟩
  | some a =>
    refine SatL.of 8 [2] Try.func33 (by kernel_rfl) (by kernel_rfl) rfl rfl rfl rfl ?_
    repeat' (first | (apply OK_seq) | (apply thenQ_n) | (apply OK_region) | (apply OKx_eqNilF; (focus exact rfl); (focus exact rfl)) | (refine OKx_appSl 0 (xs := []) rfl rfl rfl hsl (fun j hj => h1 j (by omega)) (by omega) (by omega) ?_; intro v2; rw [Nat.zero_add, Nat.mul_one, List.nil_append, List.set_cons_zero]) | (apply OKx_nilK) | (apply OK_block) | (apply blockQ_n) | (apply blockQ_s) | (apply thenQ_e) | (apply blockQ_e; (focus exact rfl)) | (apply thenQ_r) | (apply blockQ_r) | (apply OK_condT; (focus exact rfl)) | (apply OK_condF; (focus exact rfl)) | (apply OK_skip) | (apply OK_exit) | (apply OK_ret) | (apply OKx_move; (focus ((conv => lhs; whnf) <;> exact rfl))) | (apply OKx_assign; (focus ((conv => lhs; whnf) <;> exact rfl))) | (apply OKx_eql; (focus exact rfl); (focus exact rfl); all_goals (intro _; try (exfalso; omega))) | (apply OKx_slit0; intro _))
    first | refine bodyQ_r1 (by ((conv => lhs; whnf) <;> exact rfl)) ?_ | refine bodyQ_r2 (by ((conv => lhs; whnf) <;> exact rfl)) (by ((conv => lhs; whnf) <;> exact rfl)) ?_ | refine bodyQ_r3 (by ((conv => lhs; whnf) <;> exact rfl)) (by ((conv => lhs; whnf) <;> exact rfl)) (by ((conv => lhs; whnf) <;> exact rfl)) ?_ | refine bodyQ_r0 ?_ | refine bodyQ_n0 ?_
    exact ⟨_, Ent.pick [0] rfl, rfl⟩

/-- The first i and the last i are swapped. -/
def rvK (vs us : List Value) (i : Nat) : Prop := us.length = vs.length ∧ ∀ p, p < vs.length → us.getD p undef = if p < i ∨ vs.length ≤ p + i then vs.getD (vs.length - 1 - p) undef else vs.getD p undef
theorem rvK_zero (vs : List Value) : rvK vs vs 0 := ⟨rfl, fun p hp => by rw [if_neg (by omega)]⟩
theorem getD_set {α : Type} (l : List α) (i j : Nat) (v d : α) (hj : j < l.length) : (l.set i v).getD j d = if i = j then v else l.getD j d := by
  rw [List.getD_eq_getElem?_getD, List.getElem?_set, List.getD_eq_getElem?_getD]
  split
  · rename_i h; subst h; rw [if_pos hj]; rfl
  · rfl
theorem rvK_step (vs us : List Value) (i : Nat) (h : rvK vs us i) (hi : i + 1 + i < vs.length) : rvK vs ((us.set i (us.getD (vs.length - 1 - i) undef)).set (vs.length - 1 - i) (us.getD i undef)) (i + 1) := by
  obtain ⟨hl, h⟩ := h
  refine ⟨by simp [hl], fun p hp => ?_⟩
  rw [getD_set _ _ _ _ _ (by rw [List.length_set]; omega), getD_set _ _ _ _ _ (by omega)]
  have h1 := h p hp
  have h2 := h i (by omega)
  have h3 := h (vs.length - 1 - i) (by omega)
  rw [if_neg (by omega)] at h2 h3
  by_cases e1 : vs.length - 1 - i = p
  · rw [if_pos e1, if_pos (by omega), h2]
    congr 1; omega
  · rw [if_neg e1]
    by_cases e2 : i = p
    · rw [if_pos e2, if_pos (by omega), h3]
      congr 1; omega
    · rw [if_neg e2, h1]
      by_cases e3 : p < i ∨ vs.length ≤ p + i
      · rw [if_pos e3, if_pos (by omega)]
      · rw [if_neg e3, if_neg (by omega)]
theorem rvK_end (vs us : List Value) (i : Nat) (h : rvK vs us i) (hi : vs.length ≤ i + i + 1) : us = vs.reverse := by
  obtain ⟨hl, h⟩ := h
  refine List.ext_getElem (by simp [hl]) fun p h1 h2 => ?_
  have h3 := h p (by omega)
  rw [getD_lt _ _ _ h1] at h3
  rw [h3, List.getElem_reverse]
  have h4 : p < vs.length := by omega
  split
  · rw [getD_lt _ _ _ (by omega)]
  · rw [getD_lt _ _ _ h4]
    congr 1
    omega
theorem getO {α : Type} (l : List α) (i : Nat) (d : α) (h : i < l.length) : l[i]? = some (l.getD i d) := by
  rw [getD_lt _ _ _ h]; exact List.getElem?_eq_getElem h
set_option maxRecDepth 100000 in
set_option maxHeartbeats 4000000 in
theorem reverse_tab_sat (a : Option Addr) (n c : Nat) (vs : List Value) (Z : List Res) (w : World) (hn : vs.length = n) (hn8 : n ≤ 1000000) (ha : 0 < n → ∃ g, a = some ⟨g, 0, none⟩) (h1 : ∀ j, j < n → (vs.getD j undef).oneCell' = true ∧ (vs.getD j undef).cells = #[vs.getD j undef]) :
    SatL Try.prog 34 [.slice a n c] w (.row 27 1 (.slice a n c) n vs :: Z) (fun u L' => u = .tuple #[] ∧ L' = .row 27 1 (.slice a n c) n vs.reverse :: Z) := by
  refine SatL.of 28 [] Try.func34 (by kernel_rfl) (by kernel_rfl) rfl rfl rfl rfl ?_
  repeat' (first | (apply OK_seq) | (apply thenQ_n) | (apply OK_region) | refine OK_mix [2, 3] [0, 1, 4, 5, 6, 7, 8, 9, 10, 11, 12] [] [13, 14, 15] [] (id := 3) (by kernel_rfl) (by kernel_rfl) rfl (Ent.nil) (by ((try simp only [pickO, nthO, List.cons_append, List.nil_append, List.append_nil]) <;> exact rfl)) (by ((try simp only [pickO, nthO, List.cons_append, List.nil_append, List.append_nil]) <;> exact rfl)) (by ((try simp only [pickO, nthO, List.cons_append, List.nil_append, List.append_nil]) <;> exact rfl)) (by ((try simp only [pickO, nthO, List.cons_append, List.nil_append, List.append_nil]) <;> exact rfl)) ?_ | (apply OKx_nilK) | (apply OK_block) | (apply blockQ_n) | (apply blockQ_s) | (apply thenQ_e) | (apply blockQ_e; (focus exact rfl)) | (apply thenQ_r) | (apply blockQ_r) | (apply OK_condT; (focus exact rfl)) | (apply OK_condF; (focus exact rfl)) | (apply OK_skip) | (apply OK_exit) | (apply OK_ret) | (apply OKx_move; (focus ((conv => lhs; whnf) <;> exact rfl))) | (apply OKx_assign; (focus ((conv => lhs; whnf) <;> exact rfl))) | (apply OKx_ldB; (focus exact rfl); (focus first | exact at0 | exact at1 | exact at2 | exact at3 | exact at4 | exact at5 | exact at6 | exact at7); (focus exact rfl)) | (apply OKx_ldR; (focus ((conv => lhs; whnf) <;> exact rfl)); (focus with_reducible assumption)) | (apply OKx_len; (focus exact rfl)) | (apply OKx_lenR; (focus ((conv => lhs; whnf) <;> exact rfl)); (focus with_reducible assumption)) | (apply OKx_lenR2; (focus ((conv => lhs; whnf) <;> exact rfl)); (focus with_reducible assumption)) | (apply OKx_lenO; (focus ((conv => lhs; whnf) <;> exact rfl)); (focus first | exact at0 | exact at1 | exact at2 | exact at3 | exact at4 | exact at5 | exact at6 | exact at7)) | (apply OKx_lss; (focus exact rfl); (focus exact rfl); all_goals (intro _; try (exfalso; omega))) | (apply OKx_idxO; (focus exact rfl); (focus exact rfl); (focus omega)) | (apply OKx_idxR; (focus ((conv => lhs; whnf) <;> exact rfl)); (focus with_reducible assumption); (focus exact rfl); (focus omega); intro _ _) | (apply OKx_idxOz; (focus exact rfl); (focus exact rfl); (focus omega); (focus omega)) | (apply OKx_idxRz; (focus ((conv => lhs; whnf) <;> exact rfl)); (focus with_reducible assumption); (focus exact rfl); (focus omega); (focus omega); intro _ _) | (apply OKx_inc; (focus exact rfl); (focus exact rfl); (focus omega)) | (apply OKx_addN; (focus exact rfl); (focus exact rfl); (focus omega)) | (apply OKx_add; (focus exact rfl); (focus exact rfl); (focus omega); (focus omega)) | (apply OKx_dec; (focus exact rfl); (focus exact rfl); (focus omega); (focus omega)) | (apply OKx_subN; (focus exact rfl); (focus exact rfl); (focus omega); (focus omega)) | (apply OKx_sub; (focus exact rfl); (focus exact rfl); (focus omega); (focus omega)) | (apply OKx_stB; (focus exact rfl); (focus ((conv => lhs; whnf) <;> exact rfl)); (focus exact rfl); (focus exact rfl); (focus first | exact at0 | exact at1 | exact at2 | exact at3 | exact at4 | exact at5 | exact at6 | exact at7); (focus exact rfl); (focus exact rfl); (focus exact rfl)))
  refine OK_loop2 2 3 [2, 3, 7, 8, 9, 10, 11, 12, 13, 14, 15, 16, 17, 18, 19, 20, 21, 22, 23, 24, 25, 26, 27] (fun m u v L => ∃ (i : Nat) (z : Int) (us : List Value), i + m = n + 1 ∧ z = (n : Int) - 1 - i ∧ rvK vs us i ∧ (∀ j, j < n → (us.getD j undef).oneCell' = true ∧ (us.getD j undef).cells = #[us.getD j undef]) ∧ u = .int .i64 (i : Int) ∧ v = .int .i64 z ∧ L = .row 27 1 (.slice a n c) n us :: Z) (n + 1) _ (Ent.refl _ _) ⟨0, (n : Int) - 1 - (0 : Nat), vs, by omega, rfl, rvK_zero vs, h1, rfl, int_eq (by omega), rfl⟩ ?_
  rintro m u v L G ⟨i, z, us, hm, hz, hk, ho, rfl, rfl, rfl⟩
  by_cases hi : i + 1 + i < n
  · obtain ⟨g, rfl⟩ := ha (by omega)
    obtain ⟨j, rfl⟩ : ∃ j : Nat, z = (j : Int) := ⟨n - 1 - i, by omega⟩
    have hs := rvK_step vs us i hk (by omega)
    have hul := hk.1
    have hoi := ho i (by omega)
    have hoj := ho j (by omega)
    have ej : vs.length - 1 - i = j := by omega
    rw [ej] at hs
    have hgi := getO us i undef (by omega)
    have hgj := getO us j undef (by omega)
    repeat' (first | (apply OK_seq) | (apply thenQ_n) | (apply OK_region) | (refine OKx_ldW 0 rfl rfl (by omega) hgi ?_) | (refine OKx_ldW 0 rfl rfl (by omega) hgj ?_) | (refine OKx_stW 0 rfl rfl hoj.1 hoj.2 rfl (by omega) rfl rfl ?_) | (refine OKx_stW 0 rfl rfl hoi.1 hoi.2 rfl (by omega) rfl rfl ?_) | refine OK_mix [2, 3] [0, 1, 4, 5, 6, 7, 8, 9, 10, 11, 12] [] [13, 14, 15] [] (id := 3) (by kernel_rfl) (by kernel_rfl) rfl (Ent.nil) (by ((try simp only [pickO, nthO, List.cons_append, List.nil_append, List.append_nil]) <;> exact rfl)) (by ((try simp only [pickO, nthO, List.cons_append, List.nil_append, List.append_nil]) <;> exact rfl)) (by ((try simp only [pickO, nthO, List.cons_append, List.nil_append, List.append_nil]) <;> exact rfl)) (by ((try simp only [pickO, nthO, List.cons_append, List.nil_append, List.append_nil]) <;> exact rfl)) ?_ | (apply OKx_nilK) | (apply OK_block) | (apply blockQ_n) | (apply blockQ_s) | (apply thenQ_e) | (apply blockQ_e; (focus exact rfl)) | (apply thenQ_r) | (apply blockQ_r) | (apply OK_condT; (focus exact rfl)) | (apply OK_condF; (focus exact rfl)) | (apply OK_skip) | (apply OK_exit) | (apply OK_ret) | (apply OKx_move; (focus ((conv => lhs; whnf) <;> exact rfl))) | (apply OKx_assign; (focus ((conv => lhs; whnf) <;> exact rfl))) | (apply OKx_ldB; (focus exact rfl); (focus first | exact at0 | exact at1 | exact at2 | exact at3 | exact at4 | exact at5 | exact at6 | exact at7); (focus exact rfl)) | (apply OKx_ldR; (focus ((conv => lhs; whnf) <;> exact rfl)); (focus with_reducible assumption)) | (apply OKx_len; (focus exact rfl)) | (apply OKx_lenR; (focus ((conv => lhs; whnf) <;> exact rfl)); (focus with_reducible assumption)) | (apply OKx_lenR2; (focus ((conv => lhs; whnf) <;> exact rfl)); (focus with_reducible assumption)) | (apply OKx_lenO; (focus ((conv => lhs; whnf) <;> exact rfl)); (focus first | exact at0 | exact at1 | exact at2 | exact at3 | exact at4 | exact at5 | exact at6 | exact at7)) | (apply OKx_lss; (focus exact rfl); (focus exact rfl); all_goals (intro _; try (exfalso; omega))) | (apply OKx_idxO; (focus exact rfl); (focus exact rfl); (focus omega)) | (apply OKx_idxR; (focus ((conv => lhs; whnf) <;> exact rfl)); (focus with_reducible assumption); (focus exact rfl); (focus omega); intro _ _) | (apply OKx_idxOz; (focus exact rfl); (focus exact rfl); (focus omega); (focus omega)) | (apply OKx_idxRz; (focus ((conv => lhs; whnf) <;> exact rfl)); (focus with_reducible assumption); (focus exact rfl); (focus omega); (focus omega); intro _ _) | (apply OKx_inc; (focus exact rfl); (focus exact rfl); (focus omega)) | (apply OKx_addN; (focus exact rfl); (focus exact rfl); (focus omega)) | (apply OKx_add; (focus exact rfl); (focus exact rfl); (focus omega); (focus omega)) | (apply OKx_dec; (focus exact rfl); (focus exact rfl); (focus omega); (focus omega)) | (apply OKx_subN; (focus exact rfl); (focus exact rfl); (focus omega); (focus omega)) | (apply OKx_sub; (focus exact rfl); (focus exact rfl); (focus omega); (focus omega)) | (apply OKx_stB; (focus exact rfl); (focus ((conv => lhs; whnf) <;> exact rfl)); (focus exact rfl); (focus exact rfl); (focus first | exact at0 | exact at1 | exact at2 | exact at3 | exact at4 | exact at5 | exact at6 | exact at7); (focus exact rfl); (focus exact rfl); (focus exact rfl)))
    refine ⟨by (repeat' (first | refine agree_upd rfl ?_ | exact agree_over | exact agree_refl _ _ | refine agree_over2 rfl ?_)), m - 1, _, by omega, Ent.refl _ _, ?_⟩
    refine ⟨i + 1, (j : Int) - 1, _, by omega, by omega, hs, fun p hp => ?_, rfl, int_eq (by omega), rfl⟩
    rw [getD_set _ _ _ _ _ (by rw [List.length_set]; omega), getD_set _ _ _ _ _ (by omega)]
    split
    · exact hoi
    · split
      · exact hoj
      · exact ho p hp
  · repeat' (first | (apply OK_seq) | (apply thenQ_n) | (apply OK_region) | refine OK_mix [2, 3] [0, 1, 4, 5, 6, 7, 8, 9, 10, 11, 12] [] [13, 14, 15] [] (id := 3) (by kernel_rfl) (by kernel_rfl) rfl (Ent.nil) (by ((try simp only [pickO, nthO, List.cons_append, List.nil_append, List.append_nil]) <;> exact rfl)) (by ((try simp only [pickO, nthO, List.cons_append, List.nil_append, List.append_nil]) <;> exact rfl)) (by ((try simp only [pickO, nthO, List.cons_append, List.nil_append, List.append_nil]) <;> exact rfl)) (by ((try simp only [pickO, nthO, List.cons_append, List.nil_append, List.append_nil]) <;> exact rfl)) ?_ | (apply OKx_nilK) | (apply OK_block) | (apply blockQ_n) | (apply blockQ_s) | (apply thenQ_e) | (apply blockQ_e; (focus exact rfl)) | (apply thenQ_r) | (apply blockQ_r) | (apply OK_condT; (focus exact rfl)) | (apply OK_condF; (focus exact rfl)) | (apply OK_skip) | (apply OK_exit) | (apply OK_ret) | (apply OKx_move; (focus ((conv => lhs; whnf) <;> exact rfl))) | (apply OKx_assign; (focus ((conv => lhs; whnf) <;> exact rfl))) | (apply OKx_ldB; (focus exact rfl); (focus first | exact at0 | exact at1 | exact at2 | exact at3 | exact at4 | exact at5 | exact at6 | exact at7); (focus exact rfl)) | (apply OKx_ldR; (focus ((conv => lhs; whnf) <;> exact rfl)); (focus with_reducible assumption)) | (apply OKx_len; (focus exact rfl)) | (apply OKx_lenR; (focus ((conv => lhs; whnf) <;> exact rfl)); (focus with_reducible assumption)) | (apply OKx_lenR2; (focus ((conv => lhs; whnf) <;> exact rfl)); (focus with_reducible assumption)) | (apply OKx_lenO; (focus ((conv => lhs; whnf) <;> exact rfl)); (focus first | exact at0 | exact at1 | exact at2 | exact at3 | exact at4 | exact at5 | exact at6 | exact at7)) | (apply OKx_lss; (focus exact rfl); (focus exact rfl); all_goals (intro _; try (exfalso; omega))) | (apply OKx_idxO; (focus exact rfl); (focus exact rfl); (focus omega)) | (apply OKx_idxR; (focus ((conv => lhs; whnf) <;> exact rfl)); (focus with_reducible assumption); (focus exact rfl); (focus omega); intro _ _) | (apply OKx_idxOz; (focus exact rfl); (focus exact rfl); (focus omega); (focus omega)) | (apply OKx_idxRz; (focus ((conv => lhs; whnf) <;> exact rfl)); (focus with_reducible assumption); (focus exact rfl); (focus omega); (focus omega); intro _ _) | (apply OKx_inc; (focus exact rfl); (focus exact rfl); (focus omega)) | (apply OKx_addN; (focus exact rfl); (focus exact rfl); (focus omega)) | (apply OKx_add; (focus exact rfl); (focus exact rfl); (focus omega); (focus omega)) | (apply OKx_dec; (focus exact rfl); (focus exact rfl); (focus omega); (focus omega)) | (apply OKx_subN; (focus exact rfl); (focus exact rfl); (focus omega); (focus omega)) | (apply OKx_sub; (focus exact rfl); (focus exact rfl); (focus omega); (focus omega)) | (apply OKx_stB; (focus exact rfl); (focus ((conv => lhs; whnf) <;> exact rfl)); (focus exact rfl); (focus exact rfl); (focus first | exact at0 | exact at1 | exact at2 | exact at3 | exact at4 | exact at5 | exact at6 | exact at7); (focus exact rfl); (focus exact rfl); (focus exact rfl)))
    first | refine bodyQ_r0 ?_ | refine bodyQ_n0 ?_
    exact ⟨_, Ent.refl _ _, rfl, by rw [rvK_end vs us i hk (by omega)]⟩
#print axioms reverse_tab_sat

/-! ### Best, as four numbers -/
def bstE (s : Stem) (xs : List (List Int)) : Int := if totE s xs ≠ 0 then totE s xs else if (bout s xs s.par.length).found = false then 6 else 0
def bstC (s : Stem) (xs : List (List Int)) : Int := if bstE s xs ≠ 0 then 0 else (bout s xs s.par.length).child
def bstP (s : Stem) (xs : List (List Int)) : Int := if bstE s xs ≠ 0 then 0 else (bout s xs s.par.length).parent
def bstN (s : Stem) (xs : List (List Int)) : Int := if bstE s xs ≠ 0 then 0 else (bout s xs s.par.length).least
theorem BstR_eq (s : Stem) (xs : List (List Int)) : BstR s xs = .tuple #[.int .i64 (bstC s xs), .int .i64 (bstP s xs), .int .i64 (bstN s xs), .int .i64 (bstE s xs)] := by
  unfold BstR bstC bstP bstN bstE
  by_cases h1 : totE s xs ≠ 0
  · rw [if_pos h1, if_pos h1, if_pos h1, if_pos h1, if_pos h1]
  · rw [if_neg h1, if_neg h1]
    by_cases h2 : (bout s xs s.par.length).found = false
    · rw [if_pos h2, if_pos h2]; rfl
    · rw [if_neg h2, if_neg h2]; rfl
set_option maxRecDepth 100000 in
set_option maxHeartbeats 4000000 in
theorem Best4_sat (v sv : Value) (s : Stem) (xs : List (List Int)) (w : World) (h : Stm w v s) (hs : Tabs w sv xs) : SatV Try.prog 39 [v, sv] w (.tuple #[.int .i64 (bstC s xs), .int .i64 (bstP s xs), .int .i64 (bstN s xs), .int .i64 (bstE s xs)]) := by
  rw [← BstR_eq]; exact Best_sat v sv s xs w h hs
set_option maxRecDepth 100000 in
set_option maxHeartbeats 4000000 in
theorem rBest4_sat (v sv : Value) (s : Stem) (xs : List (List Int)) (w : World) (h : Stm w v s) (hs : Tabs w sv xs) : SatV Try.prog 40 [v, sv] w (.tuple #[.int .i64 (bstC s xs), .int .i64 (bstP s xs), .int .i64 (bstN s xs), .int .i64 (bstE s xs)]) := by
  rw [← BstR_eq]; exact rBest2_sat v sv s xs w h hs
set_option maxRecDepth 100000 in
set_option maxHeartbeats 4000000 in
theorem ContaminationTotals_sat (v sv : Value) (s : Stem) (xs : List (List Int)) (w : World) (h : Stm w v s) (hs : Tabs w sv xs) : SatV Try.prog 7 [v, sv] w (.bool true) := by
  have hst := h
  obtain ⟨nv, ev, pv, rfl, _, _, _⟩ := h
  refine SatL.of 80 [4] Try.func7 (by kernel_rfl) (by kernel_rfl) rfl rfl rfl rfl ?_
  repeat' (first | (apply OK_seq) | (apply thenQ_n) | (apply OK_region) | (refine OKx_callB (f := 37) (b := greatPl s xs) rfl rfl rfl (fun w1 hp => GreatPl_sat _ _ s xs w1 (hst.below hp.below) (hs.below hp.below)) ?_ ?_ <;> intro hg) | (refine OKx_callV (f := 16) rfl rfl rfl (fun w1 hp => awake38_sat w1) ?_) | (refine OKx_callV (f := 35) rfl rfl rfl (fun w1 hp => Total_sat _ _ s xs w1 (hst.below hp.below) (hs.below hp.below)) ?_) | (refine OKx_callV (f := 38) rfl rfl rfl (fun w1 hp => rTotal_sat _ _ s xs w1 (hst.below hp.below) (hs.below hp.below)) ?_) | (refine OKx_callV (f := 39) rfl rfl rfl (fun w1 hp => Best4_sat _ _ s xs w1 (hst.below hp.below) (hs.below hp.below)) ?_) | (refine OKx_callV (f := 40) rfl rfl rfl (fun w1 hp => rBest4_sat _ _ s xs w1 (hst.below hp.below) (hs.below hp.below)) ?_) | (apply OKx_nilK) | (apply OK_block) | (apply blockQ_n) | (apply blockQ_s) | (apply thenQ_e) | (apply blockQ_e; (focus exact rfl)) | (apply thenQ_r) | (apply blockQ_r) | (apply OK_condT; (focus exact rfl)) | (apply OK_condF; (focus exact rfl)) | (apply OK_skip) | (apply OK_exit) | (apply OK_ret) | (apply OKx_move; (focus ((conv => lhs; whnf) <;> exact rfl))) | (apply OKx_assign; (focus ((conv => lhs; whnf) <;> exact rfl))) | (apply OKx_eql; (focus exact rfl); (focus exact rfl); all_goals (intro _; try (exfalso; omega))) | (apply OKx_pickT; (focus exact rfl); (focus ((conv => lhs; whnf) <;> exact rfl))) | (apply OKx_pickF; (focus exact rfl); (focus ((conv => lhs; whnf) <;> exact rfl))) | (apply OKx_guardT; (focus exact rfl); (focus exact rfl)) | (apply OKx_guardF; (focus exact rfl); (focus exact rfl)) | (apply OKx_guardU; (focus exact rfl); (focus exact rfl)) | (apply OKx_extract; (focus exact rfl); (focus ((conv => lhs; whnf) <;> exact rfl))) | (apply OKx_boxA; (focus exact rfl); intro _) | (apply OKx_ldBA; (focus exact rfl); (focus first | exact at0 | exact at1 | exact at2 | exact at3 | exact at4 | exact at5 | exact at6 | exact at7); (focus exact rfl)) | (apply OKx_ldRA; (focus ((conv => lhs; whnf) <;> exact rfl)); (focus with_reducible assumption)))
  all_goals
    first | refine bodyQ_r1 (by ((conv => lhs; whnf) <;> exact rfl)) ?_ | refine bodyQ_r2 (by ((conv => lhs; whnf) <;> exact rfl)) (by ((conv => lhs; whnf) <;> exact rfl)) ?_ | refine bodyQ_r3 (by ((conv => lhs; whnf) <;> exact rfl)) (by ((conv => lhs; whnf) <;> exact rfl)) (by ((conv => lhs; whnf) <;> exact rfl)) ?_ | refine bodyQ_r0 ?_ | refine bodyQ_n0 ?_
    exact ⟨_, Ent.nil, rfl, rfl⟩
#print axioms ContaminationTotals_sat

/-! ### Fine places -/
def fineB (s : Stem) (l : List Int) : Bool := !great38 s l && (decide (s.names.length ≤ 6) && decide (chkC s l = 0))
theorem fineB_yes {s : Stem} {l : List Int} (h : fineB s l = true) : s.names.length ≤ 6 ∧ chkC s l = 0 := fine_yes h
theorem fine_scE {s : Stem} {l : List Int} (h : fineB s l = true) : scE s l = 0 := by
  obtain ⟨h1, h2⟩ := fineB_yes h
  exact scE_small h2 (by have := chkC_le h2; omega)
set_option maxRecDepth 100000 in
set_option maxHeartbeats 4000000 in
theorem sums1_sat (pt nv ev pv lv : Value) (s : Stem) (l : List Int) (w : World) (hp : Pt w pt 3 (fun j => [nv, ev, pv].getD j undef)) (h : Stm w (.agg #[nv, ev, pv]) s) (hl : Ints w lv l) : SatV Try.prog 32 [lv, pt] w (.bool (!fineB s l)) := by
  refine SatL.of 8 [3] Try.func32 (by kernel_rfl) (by kernel_rfl) rfl rfl rfl rfl ?_
  repeat' (first | (apply OK_seq) | (apply thenQ_n) | (apply OK_region) | (refine OKx_callB (f := 27) (b := fineB s l) rfl rfl rfl (fun w1 hp => fine38_sat _ _ s l w1 (h.below hp.below) (hl.below hp.below)) ?_ ?_ <;> intro hg) | (apply OKx_nilK) | (apply OK_block) | (apply blockQ_n) | (apply blockQ_s) | (apply thenQ_e) | (apply blockQ_e; (focus exact rfl)) | (apply thenQ_r) | (apply blockQ_r) | (apply OK_condT; (focus exact rfl)) | (apply OK_condF; (focus exact rfl)) | (apply OK_skip) | (apply OK_exit) | (apply OK_ret) | (apply OKx_move; (focus ((conv => lhs; whnf) <;> exact rfl))) | (apply OKx_assign; (focus ((conv => lhs; whnf) <;> exact rfl))) | (apply OKx_notT; (focus exact rfl)) | (apply OKx_notF; (focus exact rfl)) | (apply OKx_ldBA; (focus exact rfl); (focus first | exact at0 | exact at1 | exact at2 | exact at3 | exact at4 | exact at5 | exact at6 | exact at7); (focus exact rfl)) | (apply OKx_ldRA; (focus ((conv => lhs; whnf) <;> exact rfl)); (focus with_reducible assumption)))
  all_goals
    first | refine bodyQ_r1 (by ((conv => lhs; whnf) <;> exact rfl)) ?_ | refine bodyQ_r2 (by ((conv => lhs; whnf) <;> exact rfl)) (by ((conv => lhs; whnf) <;> exact rfl)) ?_ | refine bodyQ_r3 (by ((conv => lhs; whnf) <;> exact rfl)) (by ((conv => lhs; whnf) <;> exact rfl)) (by ((conv => lhs; whnf) <;> exact rfl)) ?_ | refine bodyQ_r0 ?_ | refine bodyQ_n0 ?_
    exact ⟨_, Ent.nil, by rw [hg]; rfl, rfl⟩
set_option maxRecDepth 100000 in
set_option maxHeartbeats 4000000 in
theorem best1c_sat (pt nv ev pv lv : Value) (s : Stem) (l : List Int) (w : World) (hp : Pt w pt 3 (fun j => [nv, ev, pv].getD j undef)) (h : Stm w (.agg #[nv, ev, pv]) s) (hl : Ints w lv l) : SatV Try.prog 41 [lv, pt] w (.bool (!fineB s l)) := by
  refine SatL.of 8 [3] Try.func41 (by kernel_rfl) (by kernel_rfl) rfl rfl rfl rfl ?_
  repeat' (first | (apply OK_seq) | (apply thenQ_n) | (apply OK_region) | (refine OKx_callB (f := 27) (b := fineB s l) rfl rfl rfl (fun w1 hp => fine38_sat _ _ s l w1 (h.below hp.below) (hl.below hp.below)) ?_ ?_ <;> intro hg) | (apply OKx_nilK) | (apply OK_block) | (apply blockQ_n) | (apply blockQ_s) | (apply thenQ_e) | (apply blockQ_e; (focus exact rfl)) | (apply thenQ_r) | (apply blockQ_r) | (apply OK_condT; (focus exact rfl)) | (apply OK_condF; (focus exact rfl)) | (apply OK_skip) | (apply OK_exit) | (apply OK_ret) | (apply OKx_move; (focus ((conv => lhs; whnf) <;> exact rfl))) | (apply OKx_assign; (focus ((conv => lhs; whnf) <;> exact rfl))) | (apply OKx_notT; (focus exact rfl)) | (apply OKx_notF; (focus exact rfl)) | (apply OKx_ldBA; (focus exact rfl); (focus first | exact at0 | exact at1 | exact at2 | exact at3 | exact at4 | exact at5 | exact at6 | exact at7); (focus exact rfl)) | (apply OKx_ldRA; (focus ((conv => lhs; whnf) <;> exact rfl)); (focus with_reducible assumption)))
  all_goals
    first | refine bodyQ_r1 (by ((conv => lhs; whnf) <;> exact rfl)) ?_ | refine bodyQ_r2 (by ((conv => lhs; whnf) <;> exact rfl)) (by ((conv => lhs; whnf) <;> exact rfl)) ?_ | refine bodyQ_r3 (by ((conv => lhs; whnf) <;> exact rfl)) (by ((conv => lhs; whnf) <;> exact rfl)) (by ((conv => lhs; whnf) <;> exact rfl)) ?_ | refine bodyQ_r0 ?_ | refine bodyQ_n0 ?_
    exact ⟨_, Ent.nil, by rw [hg]; rfl, rfl⟩
def badPl (s : Stem) (xs : List (List Int)) : Bool := anyN (fun j => !fineB s (xs.getD j [])) xs.length
theorem badPl_no {s : Stem} {xs : List (List Int)} (h : badPl s xs = false) : ∀ l ∈ xs, fineB s l = true := by
  intro l hl
  obtain ⟨j, hj, rfl⟩ := List.getElem_of_mem hl
  unfold badPl anyN at h
  rw [List.any_eq_false] at h
  have := h j (List.mem_range.2 hj)
  rw [getD_lt _ _ _ hj] at this
  simpa using this
theorem Pt.below {w w' : World} {p : Value} {sz : Nat} {f : Nat → Value} (h : Pt w p sz f) (hb : Below w.heap.size w w') : Pt w' p sz f := by
  obtain ⟨b, o, rfl, hc⟩ := h
  exact ⟨b, o, rfl, fun j hj => (hb.cell (World.block_lt_of_cell? w _ (hc j hj))).trans (hc j hj)⟩
theorem sumN_all (f : Nat → Int) (a : Int) : ∀ k, sumN f k = a → sumN f k = a := fun _ h => h
theorem rev_getD {α : Type} (xs : List α) (j : Nat) (d : α) (h : j < xs.length) : xs.reverse.getD j d = xs.getD (xs.length - 1 - j) d := by
  rw [getD_lt _ _ _ (by simpa using h), List.getElem_reverse, getD_lt _ _ _ (by omega)]
theorem totE_arg {s : Stem} {xs : List (List Int)} (h : stCheck s ≠ 0) : totE s xs = 1 := if_pos h
set_option maxRecDepth 100000 in
set_option maxHeartbeats 4000000 in
theorem ContaminationSums_sat (v sv : Value) (s : Stem) (xs : List (List Int)) (w : World) (h : Stm w v s) (hs : Tabs w sv xs) : SatV Try.prog 6 [v, sv] w (.bool true) := by
  have hst := h
  obtain ⟨nv, ev, pv, rfl, _, _, _⟩ := h
  obtain ⟨fv, hsv, hrow⟩ := hs.rows
  have hsb := hsv.bound
  refine SatL.of 89 [4] Try.func6 (by kernel_rfl) (by kernel_rfl) rfl rfl rfl rfl ?_
  repeat' (first | (apply OK_seq) | (apply thenQ_n) | (apply OK_region) | (refine OKx_callB (f := 31) (b := badPl s xs) rfl rfl rfl (fun w1 hp => containsF_tab_sat _ _ fv (fun j => !fineB s (xs.getD j [])) _ _ w1 (hsv.below hp.below) (fun j hj w2 hb2 => sums1_sat _ nv ev pv _ s _ w2 (Pt.below ⟨_, 0, rfl, fun k hk => by rw [Nat.zero_add, (hp.boxAt 0 rfl).1 k]; simp [hk]⟩ hb2) ((hst.below hp.below).below hb2) (((hrow j).below hp.below).below hb2))) ?_ ?_ <;> intro hbad) | (refine OKx_callV (f := 16) rfl rfl rfl (fun w1 hp => awake38_sat w1) ?_) | (apply OKx_nilK) | (apply OK_block) | (apply blockQ_n) | (apply blockQ_s) | (apply thenQ_e) | (apply blockQ_e; (focus exact rfl)) | (apply thenQ_r) | (apply blockQ_r) | (apply OK_condT; (focus exact rfl)) | (apply OK_condF; (focus exact rfl)) | (apply OK_skip) | (apply OK_exit) | (apply OK_ret) | (apply OKx_move; (focus ((conv => lhs; whnf) <;> exact rfl))) | (apply OKx_assign; (focus ((conv => lhs; whnf) <;> exact rfl))) | (apply OKx_ldB; (focus exact rfl); (focus first | exact at0 | exact at1 | exact at2 | exact at3 | exact at4 | exact at5 | exact at6 | exact at7); (focus exact rfl)) | (apply OKx_ldR; (focus ((conv => lhs; whnf) <;> exact rfl)); (focus with_reducible assumption)) | (apply OKx_len; (focus exact rfl)) | (apply OKx_lenR; (focus ((conv => lhs; whnf) <;> exact rfl)); (focus with_reducible assumption)) | (apply OKx_lenR2; (focus ((conv => lhs; whnf) <;> exact rfl)); (focus with_reducible assumption)) | (apply OKx_lenO; (focus ((conv => lhs; whnf) <;> exact rfl)); (focus first | exact at0 | exact at1 | exact at2 | exact at3 | exact at4 | exact at5 | exact at6 | exact at7)) | (apply OKx_lss; (focus exact rfl); (focus exact rfl); all_goals (intro _; try (exfalso; omega))) | (apply OKx_gtr; (focus exact rfl); (focus exact rfl); all_goals (intro _; try (exfalso; omega))) | (apply OKx_eql; (focus exact rfl); (focus exact rfl); all_goals (intro _; try (exfalso; omega))) | (apply OKx_neq; (focus exact rfl); (focus exact rfl); all_goals (intro _; try (exfalso; omega))) | (apply OKx_idxO; (focus exact rfl); (focus exact rfl); (focus omega)) | (apply OKx_idxR; (focus ((conv => lhs; whnf) <;> exact rfl)); (focus with_reducible assumption); (focus exact rfl); (focus omega); intro _ _) | (apply OKx_idxOz; (focus exact rfl); (focus exact rfl); (focus omega); (focus omega)) | (apply OKx_idxRz; (focus ((conv => lhs; whnf) <;> exact rfl)); (focus with_reducible assumption); (focus exact rfl); (focus omega); (focus omega); intro _ _) | (apply OKx_inc; (focus exact rfl); (focus exact rfl); (focus omega)) | (apply OKx_addN; (focus exact rfl); (focus exact rfl); (focus omega)) | (apply OKx_add; (focus exact rfl); (focus exact rfl); (focus omega); (focus omega)) | (apply OKx_pickT; (focus exact rfl); (focus ((conv => lhs; whnf) <;> exact rfl))) | (apply OKx_pickF; (focus exact rfl); (focus ((conv => lhs; whnf) <;> exact rfl))) | (apply OKx_guardT; (focus exact rfl); (focus exact rfl)) | (apply OKx_guardF; (focus exact rfl); (focus exact rfl)) | (apply OKx_guardU; (focus exact rfl); (focus exact rfl)) | (apply OKx_extract; (focus exact rfl); (focus ((conv => lhs; whnf) <;> exact rfl))) | (apply OKx_boxA; (focus exact rfl); intro _) | (apply OKx_ldBA; (focus exact rfl); (focus first | exact at0 | exact at1 | exact at2 | exact at3 | exact at4 | exact at5 | exact at6 | exact at7); (focus exact rfl)) | (apply OKx_ldRA; (focus ((conv => lhs; whnf) <;> exact rfl)); (focus with_reducible assumption)) | (apply OKx_func; (focus exact rfl); (focus exact rfl)))
  · first | refine bodyQ_r1 (by ((conv => lhs; whnf) <;> exact rfl)) ?_ | refine bodyQ_r2 (by ((conv => lhs; whnf) <;> exact rfl)) (by ((conv => lhs; whnf) <;> exact rfl)) ?_ | refine bodyQ_r3 (by ((conv => lhs; whnf) <;> exact rfl)) (by ((conv => lhs; whnf) <;> exact rfl)) (by ((conv => lhs; whnf) <;> exact rfl)) ?_ | refine bodyQ_r0 ?_ | refine bodyQ_n0 ?_
    exact ⟨_, Ent.nil, rfl, rfl⟩
  · first | refine bodyQ_r1 (by ((conv => lhs; whnf) <;> exact rfl)) ?_ | refine bodyQ_r2 (by ((conv => lhs; whnf) <;> exact rfl)) (by ((conv => lhs; whnf) <;> exact rfl)) ?_ | refine bodyQ_r3 (by ((conv => lhs; whnf) <;> exact rfl)) (by ((conv => lhs; whnf) <;> exact rfl)) (by ((conv => lhs; whnf) <;> exact rfl)) ?_ | refine bodyQ_r0 ?_ | refine bodyQ_n0 ?_
    exact ⟨_, Ent.nil, rfl, rfl⟩
  rename_i g2 _
  have hfine := badPl_no hbad
  have hsc : ∀ j, j < xs.length → scE s (xs.getD j []) = 0 := fun j hj => fine_scE (hfine _ (getD_mem xs j [] hj))
  refine OK_loop2 5 26 [4, 5, 7, 8, 9, 26, 27, 28, 29, 30, 31, 32, 33, 34, 35, 36, 37, 38, 39, 40, 41] (fun m u v L => ∃ k : Nat, k + m = xs.length ∧ u = .int .i64 (sumN (fun j => scN s (xs.getD j [])) k) ∧ v = .int .i64 (k : Int) ∧ L = [.box 26 g2 [nv, ev, pv]]) xs.length _ (Ent.refl _ _) ⟨0, by omega, rfl, rfl, rfl⟩ ?_
  rintro m u v L G ⟨k, hm, rfl, rfl, rfl⟩
  have hsum := sumN_le (fun j => scN s (xs.getD j [])) 64 (fun j => by
    have h1 := scN_le s (xs.getD j [])
    by_cases h0 : scE s (xs.getD j []) = 0
    · have h2 := (stCheck_len s (chkC_zero (scE_zero h0).1).1)
      omega
    · rw [scN_bad h0]; omega) k
  have hsk : sumN (fun j => scN s (xs.getD j [])) (k + 1) = sumN (fun j => scN s (xs.getD j [])) k + scN s (xs.getD k []) := rfl
  have hq : 0 ≤ scN s (xs.getD k []) ∧ scN s (xs.getD k []) ≤ 64 := by
    have h1 := scN_le s (xs.getD k [])
    by_cases h0 : scE s (xs.getD k []) = 0
    · have h2 := (stCheck_len s (chkC_zero (scE_zero h0).1).1)
      omega
    · rw [scN_bad h0]; omega
  by_cases hk : k < xs.length
  · have he := hsc k hk
    generalize hS : sumN (fun j => scN s (xs.getD j [])) k = S at *
    generalize hn : scN s (xs.getD k []) = q at *
    repeat' (first | (apply OK_seq) | (apply thenQ_n) | (apply OK_region) | (refine OKx_callV (f := 17) (v := .tuple #[.int .i64 q, .int .i64 0]) rfl rfl rfl (fun w1 hp => by rw [← hn, ← he]; exact Score_sat _ _ s (xs.getD k []) w1 (hst.below hp.below) ((hrow k).below hp.below)) ?_) | (apply OKx_nilK) | (apply OK_block) | (apply blockQ_n) | (apply blockQ_s) | (apply thenQ_e) | (apply blockQ_e; (focus exact rfl)) | (apply thenQ_r) | (apply blockQ_r) | (apply OK_condT; (focus exact rfl)) | (apply OK_condF; (focus exact rfl)) | (apply OK_skip) | (apply OK_exit) | (apply OK_ret) | (apply OKx_move; (focus ((conv => lhs; whnf) <;> exact rfl))) | (apply OKx_assign; (focus ((conv => lhs; whnf) <;> exact rfl))) | (apply OKx_ldB; (focus exact rfl); (focus first | exact at0 | exact at1 | exact at2 | exact at3 | exact at4 | exact at5 | exact at6 | exact at7); (focus exact rfl)) | (apply OKx_ldR; (focus ((conv => lhs; whnf) <;> exact rfl)); (focus with_reducible assumption)) | (apply OKx_len; (focus exact rfl)) | (apply OKx_lenR; (focus ((conv => lhs; whnf) <;> exact rfl)); (focus with_reducible assumption)) | (apply OKx_lenR2; (focus ((conv => lhs; whnf) <;> exact rfl)); (focus with_reducible assumption)) | (apply OKx_lenO; (focus ((conv => lhs; whnf) <;> exact rfl)); (focus first | exact at0 | exact at1 | exact at2 | exact at3 | exact at4 | exact at5 | exact at6 | exact at7)) | (apply OKx_lss; (focus exact rfl); (focus exact rfl); all_goals (intro _; try (exfalso; omega))) | (apply OKx_gtr; (focus exact rfl); (focus exact rfl); all_goals (intro _; try (exfalso; omega))) | (apply OKx_eql; (focus exact rfl); (focus exact rfl); all_goals (intro _; try (exfalso; omega))) | (apply OKx_neq; (focus exact rfl); (focus exact rfl); all_goals (intro _; try (exfalso; omega))) | (apply OKx_idxO; (focus exact rfl); (focus exact rfl); (focus omega)) | (apply OKx_idxR; (focus ((conv => lhs; whnf) <;> exact rfl)); (focus with_reducible assumption); (focus exact rfl); (focus omega); intro _ _) | (apply OKx_idxOz; (focus exact rfl); (focus exact rfl); (focus omega); (focus omega)) | (apply OKx_idxRz; (focus ((conv => lhs; whnf) <;> exact rfl)); (focus with_reducible assumption); (focus exact rfl); (focus omega); (focus omega); intro _ _) | (apply OKx_inc; (focus exact rfl); (focus exact rfl); (focus omega)) | (apply OKx_addN; (focus exact rfl); (focus exact rfl); (focus omega)) | (apply OKx_add; (focus exact rfl); (focus exact rfl); (focus omega); (focus omega)) | (apply OKx_pickT; (focus exact rfl); (focus ((conv => lhs; whnf) <;> exact rfl))) | (apply OKx_pickF; (focus exact rfl); (focus ((conv => lhs; whnf) <;> exact rfl))) | (apply OKx_guardT; (focus exact rfl); (focus exact rfl)) | (apply OKx_guardF; (focus exact rfl); (focus exact rfl)) | (apply OKx_guardU; (focus exact rfl); (focus exact rfl)) | (apply OKx_extract; (focus exact rfl); (focus ((conv => lhs; whnf) <;> exact rfl))) | (apply OKx_boxA; (focus exact rfl); intro _) | (apply OKx_ldBA; (focus exact rfl); (focus first | exact at0 | exact at1 | exact at2 | exact at3 | exact at4 | exact at5 | exact at6 | exact at7); (focus exact rfl)) | (apply OKx_ldRA; (focus ((conv => lhs; whnf) <;> exact rfl)); (focus with_reducible assumption)) | (apply OKx_func; (focus exact rfl); (focus exact rfl)))
    refine ⟨by (repeat' (first | refine agree_upd rfl ?_ | exact agree_over | exact agree_refl _ _ | refine agree_over2 rfl ?_)), m - 1, _, by omega, Ent.refl _ _, ?_⟩
    exact ⟨k + 1, by omega, by rw [hsk]; exact rfl, rfl, rfl⟩
  obtain rfl : k = xs.length := by omega
  have hone := fun j => one_of_ints (hrow j)
  have hvl : ((List.range xs.length).map fv).length = xs.length := by simp
  have hvg : ∀ j, j < xs.length → ((List.range xs.length).map fv).getD j undef = fv j := fun j hj => by simp [hj]
  have htabs : ∀ (w1 : World) (B : Nat) (L : List Res) (u : Value), Hp B w w1 (.row 27 1 u xs.length ((List.range xs.length).map fv).reverse :: L) → Below w.heap.size w w1 → Tabs w1 u xs.reverse := fun w1 B L u hp hb =>
    hp.tabs 0 rfl (by omega) (by simp) (fun j hj => by
      rw [rev_getD _ _ _ (by omega), rev_getD _ _ _ hj, hvl, hvg _ (by omega)]
      exact (hrow _).below hb)
  by_cases hc : stCheck s = 0
  · have ht : totE s xs = 0 := totE_ok hc (by omega) (fun l hl => fine_scE (hfine l hl))
    have htr := totE_rev ht
    have htn := totN_rev ht
    have hts := totN_ok ht
    generalize hS : sumN (fun j => scN s (xs.getD j [])) xs.length = S at *
    repeat' (first | (apply OK_seq) | (apply thenQ_n) | (apply OK_region) | (refine OKx_call (f := 33) rfl rfl (fun w1 hp => (clone_tab_sat _ _ fv w1 (hsv.below hp.below) (fun j hj => (hone j).1) (by omega)).row) ?_; rintro u _ ⟨rfl, hsh⟩; obtain ⟨⟨ya, yc, rfl⟩, hne⟩ := hsh _ _ _ _ _ List.mem_cons_self; rw [List.cons_append, List.nil_append]) | (refine OKx_callL (f := 34) rfl rfl (reverse_tab_sat ya xs.length yc _ _ w hvl (by omega) (fun h0 => by obtain ⟨g, c, e⟩ := hne h0; simp only [Value.slice.injEq] at e; exact ⟨g, e.1⟩) (fun j hj => by rw [hvg j hj]; exact hone j)) ?_; rintro _ _ ⟨rfl, rfl⟩) | (refine OKx_callV (f := 35) (v := .tuple #[.int .i64 S, .int .i64 0]) rfl rfl rfl (fun w1 hp => by rw [← hts, ← ht]; exact Total_sat _ _ s xs w1 (hst.below hp.below) (hs.below hp.below)) ?_) | (refine OKx_callV (f := 35) (v := .tuple #[.int .i64 S, .int .i64 0]) rfl rfl rfl (fun w1 hp => by rw [← hts, ← htn, ← htr]; exact Total_sat _ _ s xs.reverse w1 (hst.below hp.below) (htabs w1 _ _ _ hp hp.below)) ?_) | (refine OKx_callV (f := 36) (v := .int .i64 0) rfl rfl rfl (fun w1 hp => by rw [← hc]; exact rstCheck_sat _ s w1 (hst.below hp.below)) ?_) | (refine OKx_callV (f := 16) rfl rfl rfl (fun w1 hp => awake38_sat w1) ?_) | (apply OKx_nilK) | (apply OK_block) | (apply blockQ_n) | (apply blockQ_s) | (apply thenQ_e) | (apply blockQ_e; (focus exact rfl)) | (apply thenQ_r) | (apply blockQ_r) | (apply OK_condT; (focus exact rfl)) | (apply OK_condF; (focus exact rfl)) | (apply OK_skip) | (apply OK_exit) | (apply OK_ret) | (apply OKx_move; (focus ((conv => lhs; whnf) <;> exact rfl))) | (apply OKx_assign; (focus ((conv => lhs; whnf) <;> exact rfl))) | (apply OKx_ldB; (focus exact rfl); (focus first | exact at0 | exact at1 | exact at2 | exact at3 | exact at4 | exact at5 | exact at6 | exact at7); (focus exact rfl)) | (apply OKx_ldR; (focus ((conv => lhs; whnf) <;> exact rfl)); (focus with_reducible assumption)) | (apply OKx_len; (focus exact rfl)) | (apply OKx_lenR; (focus ((conv => lhs; whnf) <;> exact rfl)); (focus with_reducible assumption)) | (apply OKx_lenR2; (focus ((conv => lhs; whnf) <;> exact rfl)); (focus with_reducible assumption)) | (apply OKx_lenO; (focus ((conv => lhs; whnf) <;> exact rfl)); (focus first | exact at0 | exact at1 | exact at2 | exact at3 | exact at4 | exact at5 | exact at6 | exact at7)) | (apply OKx_lss; (focus exact rfl); (focus exact rfl); all_goals (intro _; try (exfalso; omega))) | (apply OKx_gtr; (focus exact rfl); (focus exact rfl); all_goals (intro _; try (exfalso; omega))) | (apply OKx_eql; (focus exact rfl); (focus exact rfl); all_goals (intro _; try (exfalso; omega))) | (apply OKx_neq; (focus exact rfl); (focus exact rfl); all_goals (intro _; try (exfalso; omega))) | (apply OKx_idxO; (focus exact rfl); (focus exact rfl); (focus omega)) | (apply OKx_idxR; (focus ((conv => lhs; whnf) <;> exact rfl)); (focus with_reducible assumption); (focus exact rfl); (focus omega); intro _ _) | (apply OKx_idxOz; (focus exact rfl); (focus exact rfl); (focus omega); (focus omega)) | (apply OKx_idxRz; (focus ((conv => lhs; whnf) <;> exact rfl)); (focus with_reducible assumption); (focus exact rfl); (focus omega); (focus omega); intro _ _) | (apply OKx_inc; (focus exact rfl); (focus exact rfl); (focus omega)) | (apply OKx_addN; (focus exact rfl); (focus exact rfl); (focus omega)) | (apply OKx_add; (focus exact rfl); (focus exact rfl); (focus omega); (focus omega)) | (apply OKx_pickT; (focus exact rfl); (focus ((conv => lhs; whnf) <;> exact rfl))) | (apply OKx_pickF; (focus exact rfl); (focus ((conv => lhs; whnf) <;> exact rfl))) | (apply OKx_guardT; (focus exact rfl); (focus exact rfl)) | (apply OKx_guardF; (focus exact rfl); (focus exact rfl)) | (apply OKx_guardU; (focus exact rfl); (focus exact rfl)) | (apply OKx_extract; (focus exact rfl); (focus ((conv => lhs; whnf) <;> exact rfl))) | (apply OKx_boxA; (focus exact rfl); intro _) | (apply OKx_ldBA; (focus exact rfl); (focus first | exact at0 | exact at1 | exact at2 | exact at3 | exact at4 | exact at5 | exact at6 | exact at7); (focus exact rfl)) | (apply OKx_ldRA; (focus ((conv => lhs; whnf) <;> exact rfl)); (focus with_reducible assumption)) | (apply OKx_func; (focus exact rfl); (focus exact rfl)))
    first | refine bodyQ_r1 (by ((conv => lhs; whnf) <;> exact rfl)) ?_ | refine bodyQ_r2 (by ((conv => lhs; whnf) <;> exact rfl)) (by ((conv => lhs; whnf) <;> exact rfl)) ?_ | refine bodyQ_r3 (by ((conv => lhs; whnf) <;> exact rfl)) (by ((conv => lhs; whnf) <;> exact rfl)) (by ((conv => lhs; whnf) <;> exact rfl)) ?_ | refine bodyQ_r0 ?_ | refine bodyQ_n0 ?_
    exact ⟨_, Ent.nil, rfl, rfl⟩
  · have ht : totE s xs = 1 := totE_arg hc
    have htr : totE s xs.reverse = 1 := totE_arg hc
    have hn1 := totN_bad (s := s) (xs := xs) (by omega)
    have hn2 := totN_bad (s := s) (xs := xs.reverse) (by omega)
    repeat' (first | (apply OK_seq) | (apply thenQ_n) | (apply OK_region) | (refine OKx_call (f := 33) rfl rfl (fun w1 hp => (clone_tab_sat _ _ fv w1 (hsv.below hp.below) (fun j hj => (hone j).1) (by omega)).row) ?_; rintro u _ ⟨rfl, hsh⟩; obtain ⟨⟨ya, yc, rfl⟩, hne⟩ := hsh _ _ _ _ _ List.mem_cons_self; rw [List.cons_append, List.nil_append]) | (refine OKx_callL (f := 34) rfl rfl (reverse_tab_sat ya xs.length yc _ _ w hvl (by omega) (fun h0 => by obtain ⟨g, c, e⟩ := hne h0; simp only [Value.slice.injEq] at e; exact ⟨g, e.1⟩) (fun j hj => by rw [hvg j hj]; exact hone j)) ?_; rintro _ _ ⟨rfl, rfl⟩) | (refine OKx_callV (f := 35) (v := .tuple #[.int .i64 0, .int .i64 1]) rfl rfl rfl (fun w1 hp => by rw [← ht, ← hn1]; exact Total_sat _ _ s xs w1 (hst.below hp.below) (hs.below hp.below)) ?_) | (refine OKx_callV (f := 35) (v := .tuple #[.int .i64 0, .int .i64 1]) rfl rfl rfl (fun w1 hp => by rw [← htr, ← hn2]; exact Total_sat _ _ s xs.reverse w1 (hst.below hp.below) (htabs w1 _ _ _ hp hp.below)) ?_) | (refine OKx_callV (f := 36) rfl rfl rfl (fun w1 hp => rstCheck_sat _ s w1 (hst.below hp.below)) ?_) | (refine OKx_callV (f := 16) rfl rfl rfl (fun w1 hp => awake38_sat w1) ?_) | (apply OKx_nilK) | (apply OK_block) | (apply blockQ_n) | (apply blockQ_s) | (apply thenQ_e) | (apply blockQ_e; (focus exact rfl)) | (apply thenQ_r) | (apply blockQ_r) | (apply OK_condT; (focus exact rfl)) | (apply OK_condF; (focus exact rfl)) | (apply OK_skip) | (apply OK_exit) | (apply OK_ret) | (apply OKx_move; (focus ((conv => lhs; whnf) <;> exact rfl))) | (apply OKx_assign; (focus ((conv => lhs; whnf) <;> exact rfl))) | (apply OKx_ldB; (focus exact rfl); (focus first | exact at0 | exact at1 | exact at2 | exact at3 | exact at4 | exact at5 | exact at6 | exact at7); (focus exact rfl)) | (apply OKx_ldR; (focus ((conv => lhs; whnf) <;> exact rfl)); (focus with_reducible assumption)) | (apply OKx_len; (focus exact rfl)) | (apply OKx_lenR; (focus ((conv => lhs; whnf) <;> exact rfl)); (focus with_reducible assumption)) | (apply OKx_lenR2; (focus ((conv => lhs; whnf) <;> exact rfl)); (focus with_reducible assumption)) | (apply OKx_lenO; (focus ((conv => lhs; whnf) <;> exact rfl)); (focus first | exact at0 | exact at1 | exact at2 | exact at3 | exact at4 | exact at5 | exact at6 | exact at7)) | (apply OKx_lss; (focus exact rfl); (focus exact rfl); all_goals (intro _; try (exfalso; omega))) | (apply OKx_gtr; (focus exact rfl); (focus exact rfl); all_goals (intro _; try (exfalso; omega))) | (apply OKx_eql; (focus exact rfl); (focus exact rfl); all_goals (intro _; try (exfalso; omega))) | (apply OKx_neq; (focus exact rfl); (focus exact rfl); all_goals (intro _; try (exfalso; omega))) | (apply OKx_idxO; (focus exact rfl); (focus exact rfl); (focus omega)) | (apply OKx_idxR; (focus ((conv => lhs; whnf) <;> exact rfl)); (focus with_reducible assumption); (focus exact rfl); (focus omega); intro _ _) | (apply OKx_idxOz; (focus exact rfl); (focus exact rfl); (focus omega); (focus omega)) | (apply OKx_idxRz; (focus ((conv => lhs; whnf) <;> exact rfl)); (focus with_reducible assumption); (focus exact rfl); (focus omega); (focus omega); intro _ _) | (apply OKx_inc; (focus exact rfl); (focus exact rfl); (focus omega)) | (apply OKx_addN; (focus exact rfl); (focus exact rfl); (focus omega)) | (apply OKx_add; (focus exact rfl); (focus exact rfl); (focus omega); (focus omega)) | (apply OKx_pickT; (focus exact rfl); (focus ((conv => lhs; whnf) <;> exact rfl))) | (apply OKx_pickF; (focus exact rfl); (focus ((conv => lhs; whnf) <;> exact rfl))) | (apply OKx_guardT; (focus exact rfl); (focus exact rfl)) | (apply OKx_guardF; (focus exact rfl); (focus exact rfl)) | (apply OKx_guardU; (focus exact rfl); (focus exact rfl)) | (apply OKx_extract; (focus exact rfl); (focus ((conv => lhs; whnf) <;> exact rfl))) | (apply OKx_boxA; (focus exact rfl); intro _) | (apply OKx_ldBA; (focus exact rfl); (focus first | exact at0 | exact at1 | exact at2 | exact at3 | exact at4 | exact at5 | exact at6 | exact at7); (focus exact rfl)) | (apply OKx_ldRA; (focus ((conv => lhs; whnf) <;> exact rfl)); (focus with_reducible assumption)) | (apply OKx_func; (focus exact rfl); (focus exact rfl)))
    first | refine bodyQ_r1 (by ((conv => lhs; whnf) <;> exact rfl)) ?_ | refine bodyQ_r2 (by ((conv => lhs; whnf) <;> exact rfl)) (by ((conv => lhs; whnf) <;> exact rfl)) ?_ | refine bodyQ_r3 (by ((conv => lhs; whnf) <;> exact rfl)) (by ((conv => lhs; whnf) <;> exact rfl)) (by ((conv => lhs; whnf) <;> exact rfl)) ?_ | refine bodyQ_r0 ?_ | refine bodyQ_n0 ?_
    exact ⟨_, Ent.nil, rfl, rfl⟩
#print axioms ContaminationSums_sat
end Go.Proofs.Ytmclgfipdgmomaa
