/-
  Part 21 of the proof: Sm38, Gr38, Rt38, Lc38, Rp39, Un39. No statement of the seat is proved here.
-/
import Derived.Test.YtmclgfipdgmomaaMHAgreed20
namespace Go.Proofs.Ytmclgfipdgmomaa
open Go.RowKit
def CV (l : List (Int × Int)) (j : Nat) : Nat → Value
  | 0 => .int .i64 (l.getD j (0, 0)).1
  | _ => .int .i64 (l.getD j (0, 0)).2
def Chs (w : World) (v : Value) (l : List (Int × Int)) : Prop := Sl2 w v 2 l.length (CV l)
theorem Chs.below {w w' : World} {v : Value} {l : List (Int × Int)} (h : Chs w v l) (hb : Below w.heap.size w w') : Chs w' v l := Sl2.below h hb
end Go.Proofs.Ytmclgfipdgmomaa
namespace Go.Proofs.Ytmclgfipdgmomaa
open Go.RowKit
theorem anyD_hit {α : Type} (xs : List α) (d : α) (p : α → Bool) (k : Nat) (h : k < xs.length) (e : p (xs.getD k d) = true) : xs.any p = true := by
  rw [getD_lt _ _ _ h] at e
  exact List.any_eq_true.2 ⟨_, List.getElem_mem h, e⟩
theorem anyD_none {α : Type} (xs : List α) (d : α) (p : α → Bool) (h : ∀ k, k < xs.length → p (xs.getD k d) = false) : xs.any p = false := by
  rw [List.any_eq_false]
  intro x hx
  obtain ⟨k, hk, rfl⟩ := List.getElem_of_mem hx
  have := h k hk
  rw [getD_lt _ _ _ hk] at this
  rw [this]; simp
def great36 (s : Stem) (n : Int) : Bool :=
  s.names.any (fun x => decide (20 < x.size)) || (s.par.any (fun p => decide (8 < p.length)) ||
    decide ((n < s.names.length ∧ s.names.length ≤ 64) ∨ 66 < s.names.length ∨ s.names.length + 2 < s.ext.length ∨ s.names.length + 2 < s.par.length))
set_option maxRecDepth 100000 in
set_option maxHeartbeats 4000000 in
theorem Great36_sat (v : Value) (s : Stem) (n : Int) (w : World) (h : Stm w v s) : SatV Try.prog 47 [v, .int .i64 n] w (.bool (great36 s n)) := by
  obtain ⟨nv, ev, pv, rfl, hS, hE, hP⟩ := h
  obtain ⟨fv, hpv, hrow⟩ := hP.rows
  have hnv := hS.sl
  have hev := hE.sl
  have hnb := hnv.bound
  have heb := hev.bound
  have hpb := hpv.bound
  have hrw := fun j => (hrow j).sl
  refine SatL.of 72 [4] Try.func47 (by kernel_rfl) (by kernel_rfl) rfl rfl rfl rfl ?_
  repeat' (first | (apply OK_seq) | (apply thenQ_n) | (apply OK_region) | (apply OKx_nilK) | (apply OK_block) | (apply blockQ_n) | (apply blockQ_s) | (apply thenQ_e) | (apply blockQ_e; exact rfl) | (apply thenQ_r) | (apply blockQ_r) | (apply OK_condT; exact rfl) | (apply OK_condF; exact rfl) | (apply OK_skip) | (apply OK_exit) | (apply OK_ret) | (apply OKx_move; ((conv => lhs; whnf) <;> exact rfl)) | (apply OKx_assign; ((conv => lhs; whnf) <;> exact rfl)) | (apply OKx_ldB; exact rfl; (first | exact at0 | exact at1 | exact at2 | exact at3 | exact at4 | exact at5 | exact at6 | exact at7); exact rfl) | (apply OKx_ldR; ((conv => lhs; whnf) <;> exact rfl); (with_reducible assumption)) | (apply OKx_len; exact rfl) | (apply OKx_lenR; ((conv => lhs; whnf) <;> exact rfl); (with_reducible assumption)) | (apply OKx_lenR2; ((conv => lhs; whnf) <;> exact rfl); (with_reducible assumption)) | (apply OKx_lenO; ((conv => lhs; whnf) <;> exact rfl); (first | exact at0 | exact at1 | exact at2 | exact at3 | exact at4 | exact at5 | exact at6 | exact at7)) | (apply OKx_lenS; exact rfl) | (apply OKx_lss; exact rfl; exact rfl; all_goals (intro _; try (exfalso; omega))) | (apply OKx_leq; exact rfl; exact rfl; all_goals (intro _; try (exfalso; omega))) | (apply OKx_gtr; exact rfl; exact rfl; all_goals (intro _; try (exfalso; omega))) | (apply OKx_idxO; exact rfl; exact rfl; omega) | (apply OKx_idxR; ((conv => lhs; whnf) <;> exact rfl); (with_reducible assumption); exact rfl; omega; intro _ _) | (apply OKx_idxOz; exact rfl; exact rfl; omega; omega) | (apply OKx_idxRz; ((conv => lhs; whnf) <;> exact rfl); (with_reducible assumption); exact rfl; omega; omega; intro _ _) | (apply OKx_fldO; exact rfl; exact rfl) | (apply OKx_fldR; ((conv => lhs; whnf) <;> exact rfl); (with_reducible assumption); decide; intro _ _) | (apply OKx_inc; exact rfl; exact rfl; omega) | (apply OKx_addN; exact rfl; exact rfl; omega) | (apply OKx_add; exact rfl; exact rfl; omega; omega) | (apply OKx_pickT; exact rfl; ((conv => lhs; whnf) <;> exact rfl)) | (apply OKx_pickF; exact rfl; ((conv => lhs; whnf) <;> exact rfl)) | (apply OKx_guardT; exact rfl; exact rfl) | (apply OKx_guardF; exact rfl; exact rfl) | (apply OKx_guardU; exact rfl; exact rfl) | (apply OKx_boxA; exact rfl; intro _))
  rename_i g
  refine OK_loop1 5 [4, 5, 7, 8, 9, 10, 11, 12, 13, 14, 15, 16, 17, 18, 19, 20] (fun m v L => ∃ k : Nat, k + m = s.names.length ∧ v = .int .i64 (k : Int) ∧ (∀ j, j < k → (s.names.getD j ByteArray.empty).size ≤ 20) ∧ L = [.box 26 g [nv, ev, pv]]) s.names.length _ (Ent.refl _ _) ⟨0, by omega, rfl, fun j hj => absurd hj (by omega), rfl⟩ ?_
  rintro m v L G ⟨k, hm, rfl, H, rfl⟩
  repeat' (first | (apply OK_seq) | (apply thenQ_n) | (apply OK_region) | (apply OKx_nilK) | (apply OK_block) | (apply blockQ_n) | (apply blockQ_s) | (apply thenQ_e) | (apply blockQ_e; exact rfl) | (apply thenQ_r) | (apply blockQ_r) | (apply OK_condT; exact rfl) | (apply OK_condF; exact rfl) | (apply OK_skip) | (apply OK_exit) | (apply OK_ret) | (apply OKx_move; ((conv => lhs; whnf) <;> exact rfl)) | (apply OKx_assign; ((conv => lhs; whnf) <;> exact rfl)) | (apply OKx_ldB; exact rfl; (first | exact at0 | exact at1 | exact at2 | exact at3 | exact at4 | exact at5 | exact at6 | exact at7); exact rfl) | (apply OKx_ldR; ((conv => lhs; whnf) <;> exact rfl); (with_reducible assumption)) | (apply OKx_len; exact rfl) | (apply OKx_lenR; ((conv => lhs; whnf) <;> exact rfl); (with_reducible assumption)) | (apply OKx_lenR2; ((conv => lhs; whnf) <;> exact rfl); (with_reducible assumption)) | (apply OKx_lenO; ((conv => lhs; whnf) <;> exact rfl); (first | exact at0 | exact at1 | exact at2 | exact at3 | exact at4 | exact at5 | exact at6 | exact at7)) | (apply OKx_lenS; exact rfl) | (apply OKx_lss; exact rfl; exact rfl; all_goals (intro _; try (exfalso; omega))) | (apply OKx_leq; exact rfl; exact rfl; all_goals (intro _; try (exfalso; omega))) | (apply OKx_gtr; exact rfl; exact rfl; all_goals (intro _; try (exfalso; omega))) | (apply OKx_idxO; exact rfl; exact rfl; omega) | (apply OKx_idxR; ((conv => lhs; whnf) <;> exact rfl); (with_reducible assumption); exact rfl; omega; intro _ _) | (apply OKx_idxOz; exact rfl; exact rfl; omega; omega) | (apply OKx_idxRz; ((conv => lhs; whnf) <;> exact rfl); (with_reducible assumption); exact rfl; omega; omega; intro _ _) | (apply OKx_fldO; exact rfl; exact rfl) | (apply OKx_fldR; ((conv => lhs; whnf) <;> exact rfl); (with_reducible assumption); decide; intro _ _) | (apply OKx_inc; exact rfl; exact rfl; omega) | (apply OKx_addN; exact rfl; exact rfl; omega) | (apply OKx_add; exact rfl; exact rfl; omega; omega) | (apply OKx_pickT; exact rfl; ((conv => lhs; whnf) <;> exact rfl)) | (apply OKx_pickF; exact rfl; ((conv => lhs; whnf) <;> exact rfl)) | (apply OKx_guardT; exact rfl; exact rfl) | (apply OKx_guardF; exact rfl; exact rfl) | (apply OKx_guardU; exact rfl; exact rfl) | (apply OKx_boxA; exact rfl; intro _))
  · first | refine bodyQ_r1 (by ((conv => lhs; whnf) <;> exact rfl)) ?_ | refine bodyQ_r2 (by ((conv => lhs; whnf) <;> exact rfl)) (by ((conv => lhs; whnf) <;> exact rfl)) ?_ | refine bodyQ_r3 (by ((conv => lhs; whnf) <;> exact rfl)) (by ((conv => lhs; whnf) <;> exact rfl)) (by ((conv => lhs; whnf) <;> exact rfl)) ?_ | refine bodyQ_r0 ?_ | refine bodyQ_n0 ?_
    refine ⟨_, Ent.nil, bool_eq ?_, rfl⟩
    rw [great36, anyD_hit s.names ByteArray.empty _ k (by omega) (decide_eq_true (by omega))]
    rfl
  · refine ⟨by (repeat' (first | refine agree_upd rfl ?_ | exact agree_over | exact agree_refl _ _ | refine agree_over2 rfl ?_)), m - 1, _, by omega, Ent.refl _ _, ?_⟩
    refine ⟨k + 1, by omega, rfl, fun j hj => ?_, rfl⟩
    by_cases h : j < k
    · exact H j h
    · obtain rfl : j = k := by omega
      omega
  have h1 : s.names.any (fun x => decide (20 < x.size)) = false := anyD_none s.names ByteArray.empty _ fun j hj => decide_eq_false (by have := H j (by omega); omega)
  clear H hm
  refine OK_loop1 6 [4, 6, 21, 22, 23, 24, 25, 26, 27, 28, 29, 30, 31, 32, 33, 34] (fun m v L => ∃ k : Nat, k + m = s.par.length ∧ v = .int .i64 (k : Int) ∧ (∀ j, j < k → (s.par.getD j []).length ≤ 8) ∧ L = [.box 26 g [nv, ev, pv]]) s.par.length _ (Ent.refl _ _) ⟨0, by omega, rfl, fun j hj => absurd hj (by omega), rfl⟩ ?_
  rintro m v L G2 ⟨k, hm, rfl, H, rfl⟩
  have hk := hrw k
  repeat' (first | (apply OK_seq) | (apply thenQ_n) | (apply OK_region) | (apply OKx_nilK) | (apply OK_block) | (apply blockQ_n) | (apply blockQ_s) | (apply thenQ_e) | (apply blockQ_e; exact rfl) | (apply thenQ_r) | (apply blockQ_r) | (apply OK_condT; exact rfl) | (apply OK_condF; exact rfl) | (apply OK_skip) | (apply OK_exit) | (apply OK_ret) | (apply OKx_move; ((conv => lhs; whnf) <;> exact rfl)) | (apply OKx_assign; ((conv => lhs; whnf) <;> exact rfl)) | (apply OKx_ldB; exact rfl; (first | exact at0 | exact at1 | exact at2 | exact at3 | exact at4 | exact at5 | exact at6 | exact at7); exact rfl) | (apply OKx_ldR; ((conv => lhs; whnf) <;> exact rfl); (with_reducible assumption)) | (apply OKx_len; exact rfl) | (apply OKx_lenR; ((conv => lhs; whnf) <;> exact rfl); (with_reducible assumption)) | (apply OKx_lenR2; ((conv => lhs; whnf) <;> exact rfl); (with_reducible assumption)) | (apply OKx_lenO; ((conv => lhs; whnf) <;> exact rfl); (first | exact at0 | exact at1 | exact at2 | exact at3 | exact at4 | exact at5 | exact at6 | exact at7)) | (apply OKx_lenS; exact rfl) | (apply OKx_lss; exact rfl; exact rfl; all_goals (intro _; try (exfalso; omega))) | (apply OKx_leq; exact rfl; exact rfl; all_goals (intro _; try (exfalso; omega))) | (apply OKx_gtr; exact rfl; exact rfl; all_goals (intro _; try (exfalso; omega))) | (apply OKx_idxO; exact rfl; exact rfl; omega) | (apply OKx_idxR; ((conv => lhs; whnf) <;> exact rfl); (with_reducible assumption); exact rfl; omega; intro _ _) | (apply OKx_idxOz; exact rfl; exact rfl; omega; omega) | (apply OKx_idxRz; ((conv => lhs; whnf) <;> exact rfl); (with_reducible assumption); exact rfl; omega; omega; intro _ _) | (apply OKx_fldO; exact rfl; exact rfl) | (apply OKx_fldR; ((conv => lhs; whnf) <;> exact rfl); (with_reducible assumption); decide; intro _ _) | (apply OKx_inc; exact rfl; exact rfl; omega) | (apply OKx_addN; exact rfl; exact rfl; omega) | (apply OKx_add; exact rfl; exact rfl; omega; omega) | (apply OKx_pickT; exact rfl; ((conv => lhs; whnf) <;> exact rfl)) | (apply OKx_pickF; exact rfl; ((conv => lhs; whnf) <;> exact rfl)) | (apply OKx_guardT; exact rfl; exact rfl) | (apply OKx_guardF; exact rfl; exact rfl) | (apply OKx_guardU; exact rfl; exact rfl) | (apply OKx_boxA; exact rfl; intro _))
  · first | refine bodyQ_r1 (by ((conv => lhs; whnf) <;> exact rfl)) ?_ | refine bodyQ_r2 (by ((conv => lhs; whnf) <;> exact rfl)) (by ((conv => lhs; whnf) <;> exact rfl)) ?_ | refine bodyQ_r3 (by ((conv => lhs; whnf) <;> exact rfl)) (by ((conv => lhs; whnf) <;> exact rfl)) (by ((conv => lhs; whnf) <;> exact rfl)) ?_ | refine bodyQ_r0 ?_ | refine bodyQ_n0 ?_
    refine ⟨_, Ent.nil, bool_eq ?_, rfl⟩
    rw [great36, h1, anyD_hit s.par [] _ k (by omega) (decide_eq_true (by omega))]
    rfl
  · refine ⟨by (repeat' (first | refine agree_upd rfl ?_ | exact agree_over | exact agree_refl _ _ | refine agree_over2 rfl ?_)), m - 1, _, by omega, Ent.refl _ _, ?_⟩
    refine ⟨k + 1, by omega, rfl, fun j hj => ?_, rfl⟩
    by_cases h : j < k
    · exact H j h
    · obtain rfl : j = k := by omega
      omega
  all_goals
    have h2 : s.par.any (fun p => decide (8 < p.length)) = false := anyD_none s.par [] _ fun j hj => decide_eq_false (by have := H j (by omega); omega)
    first | refine bodyQ_r1 (by ((conv => lhs; whnf) <;> exact rfl)) ?_ | refine bodyQ_r2 (by ((conv => lhs; whnf) <;> exact rfl)) (by ((conv => lhs; whnf) <;> exact rfl)) ?_ | refine bodyQ_r3 (by ((conv => lhs; whnf) <;> exact rfl)) (by ((conv => lhs; whnf) <;> exact rfl)) (by ((conv => lhs; whnf) <;> exact rfl)) ?_ | refine bodyQ_r0 ?_ | refine bodyQ_n0 ?_
    refine ⟨_, Ent.nil, bool_eq ?_, rfl⟩
    rw [great36, h1, h2, Bool.false_or, Bool.false_or]
    symm
    first
      | exact decide_eq_true (by omega)
      | exact decide_eq_false (by omega)
end Go.Proofs.Ytmclgfipdgmomaa
namespace Go.Proofs.Ytmclgfipdgmomaa
open Go.RowKit
def rpa (o : Bst) : Int := if o.found = true then o.parent else -1
end Go.Proofs.Ytmclgfipdgmomaa
namespace Go.Proofs.Ytmclgfipdgmomaa
open Go.RowKit
set_option maxRecDepth 100000 in
set_option maxHeartbeats 4000000 in
theorem indexF_tab_sat (v : Value) (N : Nat) (e : Nat → Value) (p : Nat → Bool) (g : FuncId) (cs : Array Value) (w : World) (h : Sl w v 1 N e) (hf : ∀ k, k < N → ∀ w1, Below w.heap.size w w1 → SatV Try.prog g (e k :: cs.toList) w1 (.bool (p k))) :
    Sat Try.prog 69 [v, .func (.func g) #[] cs] w (IdxR p N) := by
  have hN := h.bound
  refine SatL.of 19 [4] Try.func69 (by kernel_rfl) (by kernel_rfl) rfl rfl rfl rfl ?_
  repeat' (first | (apply OK_seq) | (apply thenQ_n) | (apply OK_region) | (apply OKx_nilK) | (apply OK_block) | (apply blockQ_n) | (apply blockQ_s) | (apply thenQ_e) | (apply blockQ_e; exact rfl) | (apply thenQ_r) | (apply blockQ_r) | (apply OK_condT; exact rfl) | (apply OK_condF; exact rfl) | (apply OK_skip) | (apply OK_exit) | (apply OK_ret) | (apply OKx_move; ((conv => lhs; whnf) <;> exact rfl)) | (apply OKx_assign; ((conv => lhs; whnf) <;> exact rfl)) | (apply OKx_ldB; exact rfl; (first | exact at0 | exact at1 | exact at2 | exact at3 | exact at4 | exact at5 | exact at6 | exact at7); exact rfl) | (apply OKx_ldR; ((conv => lhs; whnf) <;> exact rfl); (with_reducible assumption)) | (apply OKx_len; exact rfl) | (apply OKx_lenR; ((conv => lhs; whnf) <;> exact rfl); (with_reducible assumption)) | (apply OKx_lenR2; ((conv => lhs; whnf) <;> exact rfl); (with_reducible assumption)) | (apply OKx_lenO; ((conv => lhs; whnf) <;> exact rfl); (first | exact at0 | exact at1 | exact at2 | exact at3 | exact at4 | exact at5 | exact at6 | exact at7)) | (apply OKx_lss; exact rfl; exact rfl; all_goals (intro _; try (exfalso; omega))) | (apply OKx_idxO; exact rfl; exact rfl; omega) | (apply OKx_idxR; ((conv => lhs; whnf) <;> exact rfl); (with_reducible assumption); exact rfl; omega; intro _ _) | (apply OKx_idxOz; exact rfl; exact rfl; omega; omega) | (apply OKx_idxRz; ((conv => lhs; whnf) <;> exact rfl); (with_reducible assumption); exact rfl; omega; omega; intro _ _) | (apply OKx_inc; exact rfl; exact rfl; omega) | (apply OKx_addN; exact rfl; exact rfl; omega) | (apply OKx_add; exact rfl; exact rfl; omega; omega))
  refine OK_loop1 8 [4, 5, 8, 9, 10, 11, 12, 13, 14, 15, 16, 17, 18] (fun m v L => ∃ k : Nat, k + m = N ∧ v = .int .i64 (k : Int) ∧ (∀ j, j < k → p j = false) ∧ L = []) N [] (Ent.refl _ _) ⟨0, by omega, rfl, fun j hj => absurd hj (by omega), rfl⟩ ?_
  rintro m v' L G ⟨k, hm, rfl, H, rfl⟩
  repeat' (first | (apply OK_seq) | (apply thenQ_n) | (apply OK_region) | (refine OKx_callB (f := g) rfl rfl rfl (fun w hp => hf k (by omega) w hp.below) ?_ ?_ <;> intro hq) | (apply OKx_nilK) | (apply OK_block) | (apply blockQ_n) | (apply blockQ_s) | (apply thenQ_e) | (apply blockQ_e; exact rfl) | (apply thenQ_r) | (apply blockQ_r) | (apply OK_condT; exact rfl) | (apply OK_condF; exact rfl) | (apply OK_skip) | (apply OK_exit) | (apply OK_ret) | (apply OKx_move; ((conv => lhs; whnf) <;> exact rfl)) | (apply OKx_assign; ((conv => lhs; whnf) <;> exact rfl)) | (apply OKx_ldB; exact rfl; (first | exact at0 | exact at1 | exact at2 | exact at3 | exact at4 | exact at5 | exact at6 | exact at7); exact rfl) | (apply OKx_ldR; ((conv => lhs; whnf) <;> exact rfl); (with_reducible assumption)) | (apply OKx_len; exact rfl) | (apply OKx_lenR; ((conv => lhs; whnf) <;> exact rfl); (with_reducible assumption)) | (apply OKx_lenR2; ((conv => lhs; whnf) <;> exact rfl); (with_reducible assumption)) | (apply OKx_lenO; ((conv => lhs; whnf) <;> exact rfl); (first | exact at0 | exact at1 | exact at2 | exact at3 | exact at4 | exact at5 | exact at6 | exact at7)) | (apply OKx_lss; exact rfl; exact rfl; all_goals (intro _; try (exfalso; omega))) | (apply OKx_idxO; exact rfl; exact rfl; omega) | (apply OKx_idxR; ((conv => lhs; whnf) <;> exact rfl); (with_reducible assumption); exact rfl; omega; intro _ _) | (apply OKx_idxOz; exact rfl; exact rfl; omega; omega) | (apply OKx_idxRz; ((conv => lhs; whnf) <;> exact rfl); (with_reducible assumption); exact rfl; omega; omega; intro _ _) | (apply OKx_inc; exact rfl; exact rfl; omega) | (apply OKx_addN; exact rfl; exact rfl; omega) | (apply OKx_add; exact rfl; exact rfl; omega; omega))
  · first | refine bodyQ_r1 (by ((conv => lhs; whnf) <;> exact rfl)) ?_ | refine bodyQ_r2 (by ((conv => lhs; whnf) <;> exact rfl)) (by ((conv => lhs; whnf) <;> exact rfl)) ?_ | refine bodyQ_r3 (by ((conv => lhs; whnf) <;> exact rfl)) (by ((conv => lhs; whnf) <;> exact rfl)) (by ((conv => lhs; whnf) <;> exact rfl)) ?_ | refine bodyQ_r0 ?_ | refine bodyQ_n0 ?_
    exact ⟨_, Ent.refl _ _, _, rfl, rfl, by rw [anyN_hit (by omega) hq, decide_eq_true (by omega)]⟩
  · refine ⟨by (repeat' (first | refine agree_upd rfl ?_ | exact agree_over | exact agree_refl _ _ | refine agree_over2 rfl ?_)), m - 1, _, by omega, Ent.refl _ _, ?_⟩
    refine ⟨k + 1, by omega, rfl, fun j hj => ?_, rfl⟩
    by_cases hjk : j < k
    · exact H j hjk
    · obtain rfl : j = k := by omega
      exact hq
  · first | refine bodyQ_r1 (by ((conv => lhs; whnf) <;> exact rfl)) ?_ | refine bodyQ_r2 (by ((conv => lhs; whnf) <;> exact rfl)) (by ((conv => lhs; whnf) <;> exact rfl)) ?_ | refine bodyQ_r3 (by ((conv => lhs; whnf) <;> exact rfl)) (by ((conv => lhs; whnf) <;> exact rfl)) (by ((conv => lhs; whnf) <;> exact rfl)) ?_ | refine bodyQ_r0 ?_ | refine bodyQ_n0 ?_
    exact ⟨_, Ent.refl _ _, _, rfl, rfl, by rw [anyN_none fun j hj => H j (by omega)]; rfl⟩
set_option maxRecDepth 100000 in
set_option maxHeartbeats 4000000 in
theorem containsF_tab_sat (v : Value) (N : Nat) (e : Nat → Value) (p : Nat → Bool) (g : FuncId) (cs : Array Value) (w : World) (h : Sl w v 1 N e) (hf : ∀ k, k < N → ∀ w1, Below w.heap.size w w1 → SatV Try.prog g (e k :: cs.toList) w1 (.bool (p k))) :
    SatV Try.prog 31 [v, .func (.func g) #[] cs] w (.bool (anyN p N)) := by
  refine SatL.of 9 [4] Try.func31 (by kernel_rfl) (by kernel_rfl) rfl rfl rfl rfl ?_
  repeat' (first | (apply OK_seq) | (apply thenQ_n) | (apply OK_region) | (apply OKx_gc 69; exact rfl; refine OKx_call (f := 69) rfl rfl (fun w hp => indexF_tab_sat v N e p g cs w (h.below hp.below) (fun k hk w1 hb => hf k hk w1 (below_on hp.below hb))) ?_; rintro _ _ ⟨i, rfl, rfl, hi⟩) | (apply OKx_nilK) | (apply OK_block) | (apply blockQ_n) | (apply blockQ_s) | (apply thenQ_e) | (apply blockQ_e; exact rfl) | (apply thenQ_r) | (apply blockQ_r) | (apply OK_condT; exact rfl) | (apply OK_condF; exact rfl) | (apply OK_skip) | (apply OK_exit) | (apply OK_ret) | (apply OKx_move; ((conv => lhs; whnf) <;> exact rfl)) | (apply OKx_assign; ((conv => lhs; whnf) <;> exact rfl)) | (apply OKx_geq; exact rfl; exact rfl; all_goals (intro _; try (exfalso; omega))))
  all_goals
    first | refine bodyQ_r1 (by ((conv => lhs; whnf) <;> exact rfl)) ?_ | refine bodyQ_r2 (by ((conv => lhs; whnf) <;> exact rfl)) (by ((conv => lhs; whnf) <;> exact rfl)) ?_ | refine bodyQ_r3 (by ((conv => lhs; whnf) <;> exact rfl)) (by ((conv => lhs; whnf) <;> exact rfl)) (by ((conv => lhs; whnf) <;> exact rfl)) ?_ | refine bodyQ_r0 ?_ | refine bodyQ_n0 ?_
    exact ⟨_, Ent.refl _ _, bool_eq (by rw [hi]; simp; omega), rfl⟩
theorem Pt.below {w w' : World} {p : Value} {sz : Nat} {f : Nat → Value} (h : Pt w p sz f) (hb : Below w.heap.size w w') : Pt w' p sz f := by
  obtain ⟨b, o, rfl, hc⟩ := h
  exact ⟨b, o, rfl, fun j hj => (hb.cell (World.block_lt_of_cell? w _ (hc j hj))).trans (hc j hj)⟩
end Go.Proofs.Ytmclgfipdgmomaa
namespace Go.Proofs.Ytmclgfipdgmomaa
theorem kpt_eq (i n : Nat) : kpt i n = if i < n then List.range i ++ (List.range (n - 1 - i)).map (fun j => i + 1 + j) else List.range n := by
  induction n with
  | zero => simp [kpt]
  | succ n ih =>
    rw [kpt_step, ih]
    by_cases h : i < n
    · rw [if_pos h, if_neg (by omega : ¬ n = i), if_pos (by omega), List.append_assoc]
      congr 1
      obtain ⟨d, rfl⟩ : ∃ d, n = i + 1 + d := ⟨n - i - 1, by omega⟩
      rw [show i + 1 + d - 1 - i = d by omega, show i + 1 + d + 1 - 1 - i = d + 1 by omega, List.range_succ, List.map_append]
      rfl
    · rw [if_neg h]
      by_cases h2 : n = i
      · subst h2
        rw [if_pos rfl, if_pos (by omega), List.append_nil, show n + 1 - 1 - n = 0 by omega]
        simp
      · rw [if_neg h2, if_neg (by omega), ← List.range_succ]
theorem kpt_length (i n : Nat) (h : i < n) : (kpt i n).length = n - 1 := by
  rw [kpt_eq, if_pos h, List.length_append, List.length_map, List.length_range, List.length_range]
  omega
def upN (i k : Nat) : Nat := if k < i then k else k + 1
theorem kpt_at (i n k : Nat) (h : i < n) (hk : k < n - 1) : (kpt i n).getD k 0 = upN i k := by
  rw [kpt_eq, if_pos h]
  unfold upN
  by_cases h1 : k < i
  · rw [if_pos h1, List.getD_eq_getElem?_getD, List.getElem?_append_left (by simpa using h1)]
    simp [h1]
  · rw [if_neg h1, List.getD_eq_getElem?_getD, List.getElem?_append_right (by simp; omega)]
    simp only [List.length_range, List.getElem?_map]
    rw [List.getElem?_range (by omega)]
    simp; omega
theorem upN_lt (i n k : Nat) (h : i < n) (hk : k < n - 1) : upN i k < n := by unfold upN; split <;> omega
theorem upN_inj (i j k : Nat) (h : j < k) : upN i j < upN i k := by unfold upN; split <;> split <;> omega
theorem remS_names (s : Stem) (i k : Nat) (h : i < s.names.length) (hk : k < s.names.length - 1) : (remS s i).names.getD k ByteArray.empty = s.names.getD (upN i k) ByteArray.empty := by
  have hl := kpt_length i s.names.length h
  unfold remS
  rw [getD_lt _ _ _ (by simp; omega), List.getElem_map, ← getD_lt _ _ 0 (by omega), kpt_at _ _ _ h hk]
theorem remS_par (s : Stem) (i k : Nat) (h : i < s.names.length) (hk : k < s.names.length - 1) : (remS s i).par.getD k [] = remL s i (upN i k) := by
  have hl := kpt_length i s.names.length h
  unfold remS
  rw [getD_lt _ _ _ (by simp; omega), List.getElem_map, ← getD_lt _ _ 0 (by omega), kpt_at _ _ _ h hk]
theorem remS_len (s : Stem) (i : Nat) (h : i < s.names.length) : (remS s i).names.length = s.names.length - 1 ∧ (remS s i).ext.length = s.names.length - 1 ∧ (remS s i).par.length = s.names.length - 1 := by
  have hl := kpt_length i s.names.length h
  unfold remS
  refine ⟨?_, ?_, ?_⟩ <;> simp [hl]
theorem remC_mem (s : Stem) (i k : Nat) (y : Int) : y ∈ remC s i k ↔ (y ∈ s.par.getD k [] ∧ y ≠ (i : Int)) ∨ ((i : Int) ∈ s.par.getD k [] ∧ y ∈ s.par.getD i []) := by
  unfold remC
  rw [compact_mem, srtL_mem, expL_mem]
theorem remL_mem (s : Stem) (i k : Nat) (x : Int) : x ∈ remL s i k ↔ ∃ y ∈ remC s i k, decI i y = x := by
  unfold remL
  rw [List.mem_map]
theorem okPar_getD {par : List (List Int)} (h : okPar par) (k : Nat) : ∀ p ∈ par.getD k [], 0 ≤ p ∧ p < k := fun p hp => by
  by_cases hk : k < par.length
  · rw [getD_lt _ _ _ hk] at hp; exact h k hk p hp
  · rw [getD_ge _ _ _ (by omega)] at hp; simp at hp
theorem remC_rng {s : Stem} (hok : okPar s.par) (i k : Nat) (y : Int) (hy : y ∈ remC s i k) : 0 ≤ y ∧ y < k ∧ y ≠ (i : Int) := by
  rcases (remC_mem s i k y).1 hy with ⟨h1, h2⟩ | ⟨h1, h2⟩
  · have := okPar_getD hok k y h1
    exact ⟨this.1, this.2, h2⟩
  · have a := okPar_getD hok k _ h1
    have b := okPar_getD hok i y h2
    omega
theorem remL_asc {s : Stem} (hok : okPar s.par) (i k : Nat) : (remL s i k).Pairwise (· < ·) := by
  have h1 : (remC s i k).Pairwise (· < ·) := compact_asc _ (srtL_le _)
  unfold remL
  rw [List.pairwise_map]
  have key : ∀ l : List Int, (∀ y ∈ l, y ≠ (i : Int)) → l.Pairwise (· < ·) → l.Pairwise (fun a b => decI i a < decI i b) := by
    intro l
    induction l with
    | nil => intro _ _; exact List.Pairwise.nil
    | cons a l ih =>
      intro hn hp
      rw [List.pairwise_cons] at hp ⊢
      refine ⟨fun b hb => ?_, ih (fun y hy => hn y (by simp [hy])) hp.2⟩
      have h2 := hp.1 b hb
      have h3 := hn a (by simp)
      have h4 := hn b (by simp [hb])
      unfold decI
      split <;> split <;> omega
  exact key _ (fun y hy => (remC_rng hok i k y hy).2.2) h1
theorem stAt_of (s : Stem) (k : Nat) (h1 : leafNm (s.names.getD k ByteArray.empty) = true) (h2 : Lib.containsS (s.names.take k) (s.names.getD k ByteArray.empty) = false) (h3 : ∀ p ∈ s.par.getD k [], 0 ≤ p ∧ p < k) (h4 : (s.par.getD k []).Pairwise (· < ·)) : stAt s k = 0 := by
  unfold stAt
  rw [if_neg (by rw [h1]; simp), if_neg (by rw [h2]; simp), if_neg ?_, if_neg ?_]
  · unfold incB; simpa using h4
  · unfold rngB
    rw [List.any_eq_true]
    rintro ⟨p, hp, hb⟩
    have := h3 p hp
    simp at hb
    omega
theorem stCheck_of (s : Stem) (h0 : s.names.length ≠ 0) (h1 : s.names.length ≤ 64) (h2 : s.ext.length = s.names.length) (h3 : s.par.length = s.names.length) (h : ∀ k, k < s.names.length → stAt s k = 0) : stCheck s = 0 := by
  unfold stCheck
  rw [if_neg h0, if_neg (by omega), if_neg (by omega)]
  exact firstErr_all _ _ h
theorem remS_check (s : Stem) (i : Nat) (hc : stCheck s = 0) (hi : i < s.names.length) (h1 : 1 < s.names.length) : stCheck (remS s i) = 0 := by
  obtain ⟨_, h64, he, hp, hf⟩ := stCheck_len s hc
  have hok := stCheck_okPar s hc
  obtain ⟨l1, l2, l3⟩ := remS_len s i hi
  refine stCheck_of _ (by omega) (by omega) (by omega) (by omega) fun k hk => ?_
  have hk' : k < s.names.length - 1 := by omega
  have hu := upN_lt i _ k hi hk'
  have hz := stAt_zero s (upN i k) hu (by omega) (firstErr_zero _ _ hf _ hu)
  rw [← getD_lt _ _ ByteArray.empty hu] at hz
  refine stAt_of _ _ ?_ ?_ ?_ ?_
  · rw [remS_names s i k hi hk']; exact hz.1
  · rw [remS_names s i k hi hk']
    have hz2 := hz.2.1
    rw [Bool.eq_false_iff] at hz2 ⊢
    rw [Ne, Lib.containsS_iff] at hz2 ⊢
    intro hm
    apply hz2
    obtain ⟨j, hj, e⟩ := List.getElem_of_mem hm
    rw [List.length_take] at hj
    have hjk : j < k := by omega
    rw [List.getElem_take, ← getD_lt _ _ ByteArray.empty (by omega), remS_names s i j hi (by omega)] at e
    have := upN_inj i j k hjk
    rw [← e, getD_lt _ _ _ (by omega), List.mem_take_iff_getElem]
    exact ⟨upN i j, by omega, rfl⟩
  · intro p hp2
    rw [remS_par s i k hi hk', remL_mem] at hp2
    obtain ⟨y, hy, rfl⟩ := hp2
    have := remC_rng hok i _ y hy
    unfold decI
    unfold upN at this
    split <;> split at this <;> omega
  · rw [remS_par s i k hi hk']
    exact remL_asc hok i _
def derB (s : Stem) (k : Nat) : Bool := decide ((s.par.getD k []).length = 1) && s.ext.getD ((s.par.getD k []).getD 0 0).toNat false
def fdr (s : Stem) : Option Nat := (List.range s.par.length).find? (derB s)
theorem fdr_some {s : Stem} {i : Nat} (h : fdr s = some i) : i < s.par.length ∧ derB s i = true ∧ ∀ j, j < i → derB s j = false := by
  unfold fdr at h
  rw [List.find?_range_eq_some] at h
  exact ⟨by simpa using h.2.1, h.1, fun j hj => by simpa using h.2.2 j hj⟩
theorem fdr_of {s : Stem} {i : Nat} (h1 : i < s.par.length) (h2 : derB s i = true) (h3 : ∀ j, j < i → derB s j = false) : fdr s = some i := by
  unfold fdr
  rw [List.find?_range_eq_some]
  exact ⟨h2, by simpa using h1, fun j hj => by simpa using h3 j hj⟩
theorem fdr_no {s : Stem} (h : ∀ j, j < s.par.length → derB s j = false) : fdr s = none := by
  unfold fdr
  rw [List.find?_eq_none]
  exact fun j hj => by simpa using h j (List.mem_range.1 hj)
theorem derB_pos {s : Stem} {i : Nat} (hok : okPar s.par) (h : derB s i = true) : 0 < i := by
  unfold derB at h
  rw [Bool.and_eq_true, decide_eq_true_eq] at h
  have := okPar_getD hok i _ (show (s.par.getD i []).getD 0 0 ∈ s.par.getD i [] by rw [getD_lt (s.par.getD i []) 0 0 (by omega)]; exact List.getElem_mem _)
  omega
def elm : Nat → Stem → List Int → Stem × List Int
  | 0, s, old => (s, old)
  | n + 1, s, old => match fdr s with
    | none => (s, old)
    | some i => elm n (remS s i) (old.eraseIdx i)
def nums (n : Nat) : List Int := (List.range n).map fun i : Nat => (i : Int)
def elmS (s : Stem) : Stem × List Int := elm s.names.length s (nums s.names.length)
theorem elm_none {s : Stem} (h : fdr s = none) (n : Nat) (old : List Int) : elm n s old = (s, old) := by
  cases n with
  | zero => rfl
  | succ n => rw [elm, h]
theorem elm_some {s : Stem} {i : Nat} (h : fdr s = some i) (n : Nat) (old : List Int) : elm (n + 1) s old = elm n (remS s i) (old.eraseIdx i) := by
  rw [elm, h]
end Go.Proofs.Ytmclgfipdgmomaa
namespace Go.Proofs.Ytmclgfipdgmomaa
open Go.RowKit
set_option maxRecDepth 100000 in
set_option maxHeartbeats 4000000 in
theorem indexW_tab_sat (v : Value) (N : Nat) (e : Nat → Value) (p : Nat → Bool) (g : FuncId) (cs : Array Value) (w : World) (h : Sl w v 1 N e) (hf : ∀ k, k < N → ∀ w1, Below w.heap.size w w1 → SatV Try.prog g (e k :: cs.toList) w1 (.bool (p k))) :
    Sat Try.prog 69 [v, .func (.func g) #[] cs] w (IdxW p N) := by
  have hN := h.bound
  refine SatL.of 19 [4] Try.func69 (by kernel_rfl) (by kernel_rfl) rfl rfl rfl rfl ?_
  repeat' (first | (apply OK_seq) | (apply thenQ_n) | (apply OK_region) | (apply OKx_nilK) | (apply OK_block) | (apply blockQ_n) | (apply blockQ_s) | (apply thenQ_e) | (apply blockQ_e; exact rfl) | (apply thenQ_r) | (apply blockQ_r) | (apply OK_condT; exact rfl) | (apply OK_condF; exact rfl) | (apply OK_skip) | (apply OK_exit) | (apply OK_ret) | (apply OKx_move; ((conv => lhs; whnf) <;> exact rfl)) | (apply OKx_assign; ((conv => lhs; whnf) <;> exact rfl)) | (apply OKx_ldB; exact rfl; (first | exact at0 | exact at1 | exact at2 | exact at3 | exact at4 | exact at5 | exact at6 | exact at7); exact rfl) | (apply OKx_ldR; ((conv => lhs; whnf) <;> exact rfl); (with_reducible assumption)) | (apply OKx_len; exact rfl) | (apply OKx_lenR; ((conv => lhs; whnf) <;> exact rfl); (with_reducible assumption)) | (apply OKx_lenR2; ((conv => lhs; whnf) <;> exact rfl); (with_reducible assumption)) | (apply OKx_lenO; ((conv => lhs; whnf) <;> exact rfl); (first | exact at0 | exact at1 | exact at2 | exact at3 | exact at4 | exact at5 | exact at6 | exact at7)) | (apply OKx_lss; exact rfl; exact rfl; all_goals (intro _; try (exfalso; omega))) | (apply OKx_idxO; exact rfl; exact rfl; omega) | (apply OKx_idxR; ((conv => lhs; whnf) <;> exact rfl); (with_reducible assumption); exact rfl; omega; intro _ _) | (apply OKx_idxOz; exact rfl; exact rfl; omega; omega) | (apply OKx_idxRz; ((conv => lhs; whnf) <;> exact rfl); (with_reducible assumption); exact rfl; omega; omega; intro _ _) | (apply OKx_inc; exact rfl; exact rfl; omega) | (apply OKx_addN; exact rfl; exact rfl; omega) | (apply OKx_add; exact rfl; exact rfl; omega; omega))
  refine OK_loop1 8 [4, 5, 8, 9, 10, 11, 12, 13, 14, 15, 16, 17, 18] (fun m v L => ∃ k : Nat, k + m = N ∧ v = .int .i64 (k : Int) ∧ (∀ j, j < k → p j = false) ∧ L = []) N [] (Ent.refl _ _) ⟨0, by omega, rfl, fun j hj => absurd hj (by omega), rfl⟩ ?_
  rintro m v' L G ⟨k, hm, rfl, H, rfl⟩
  repeat' (first | (apply OK_seq) | (apply thenQ_n) | (apply OK_region) | (refine OKx_callB (f := g) rfl rfl rfl (fun w hp => hf k (by omega) w hp.below) ?_ ?_ <;> intro hq) | (apply OKx_nilK) | (apply OK_block) | (apply blockQ_n) | (apply blockQ_s) | (apply thenQ_e) | (apply blockQ_e; exact rfl) | (apply thenQ_r) | (apply blockQ_r) | (apply OK_condT; exact rfl) | (apply OK_condF; exact rfl) | (apply OK_skip) | (apply OK_exit) | (apply OK_ret) | (apply OKx_move; ((conv => lhs; whnf) <;> exact rfl)) | (apply OKx_assign; ((conv => lhs; whnf) <;> exact rfl)) | (apply OKx_ldB; exact rfl; (first | exact at0 | exact at1 | exact at2 | exact at3 | exact at4 | exact at5 | exact at6 | exact at7); exact rfl) | (apply OKx_ldR; ((conv => lhs; whnf) <;> exact rfl); (with_reducible assumption)) | (apply OKx_len; exact rfl) | (apply OKx_lenR; ((conv => lhs; whnf) <;> exact rfl); (with_reducible assumption)) | (apply OKx_lenR2; ((conv => lhs; whnf) <;> exact rfl); (with_reducible assumption)) | (apply OKx_lenO; ((conv => lhs; whnf) <;> exact rfl); (first | exact at0 | exact at1 | exact at2 | exact at3 | exact at4 | exact at5 | exact at6 | exact at7)) | (apply OKx_lss; exact rfl; exact rfl; all_goals (intro _; try (exfalso; omega))) | (apply OKx_idxO; exact rfl; exact rfl; omega) | (apply OKx_idxR; ((conv => lhs; whnf) <;> exact rfl); (with_reducible assumption); exact rfl; omega; intro _ _) | (apply OKx_idxOz; exact rfl; exact rfl; omega; omega) | (apply OKx_idxRz; ((conv => lhs; whnf) <;> exact rfl); (with_reducible assumption); exact rfl; omega; omega; intro _ _) | (apply OKx_inc; exact rfl; exact rfl; omega) | (apply OKx_addN; exact rfl; exact rfl; omega) | (apply OKx_add; exact rfl; exact rfl; omega; omega))
  · first | refine bodyQ_r1 (by ((conv => lhs; whnf) <;> exact rfl)) ?_ | refine bodyQ_r2 (by ((conv => lhs; whnf) <;> exact rfl)) (by ((conv => lhs; whnf) <;> exact rfl)) ?_ | refine bodyQ_r3 (by ((conv => lhs; whnf) <;> exact rfl)) (by ((conv => lhs; whnf) <;> exact rfl)) (by ((conv => lhs; whnf) <;> exact rfl)) ?_ | refine bodyQ_r0 ?_ | refine bodyQ_n0 ?_
    exact ⟨_, Ent.refl _ _, rfl, .inl ⟨k, by omega, rfl, hq, H⟩⟩
  · refine ⟨by (repeat' (first | refine agree_upd rfl ?_ | exact agree_over | exact agree_refl _ _ | refine agree_over2 rfl ?_)), m - 1, _, by omega, Ent.refl _ _, ?_⟩
    refine ⟨k + 1, by omega, rfl, fun j hj => ?_, rfl⟩
    by_cases hjk : j < k
    · exact H j hjk
    · obtain rfl : j = k := by omega
      exact hq
  · first | refine bodyQ_r1 (by ((conv => lhs; whnf) <;> exact rfl)) ?_ | refine bodyQ_r2 (by ((conv => lhs; whnf) <;> exact rfl)) (by ((conv => lhs; whnf) <;> exact rfl)) ?_ | refine bodyQ_r3 (by ((conv => lhs; whnf) <;> exact rfl)) (by ((conv => lhs; whnf) <;> exact rfl)) (by ((conv => lhs; whnf) <;> exact rfl)) ?_ | refine bodyQ_r0 ?_ | refine bodyQ_n0 ?_
    exact ⟨_, Ent.refl _ _, rfl, .inr ⟨rfl, fun j hj => H j (by omega)⟩⟩
set_option maxRecDepth 100000 in
set_option maxHeartbeats 4000000 in
theorem der1_sat (pt nv ev pv lv : Value) (s : Stem) (xs : List Int) (w : World) (hp : Pt w pt 3 (fun j => [nv, ev, pv].getD j undef)) (h : Stm w (.agg #[nv, ev, pv]) s) (hl : Ints w lv xs) (hx : xs.length = 1 → 0 ≤ xs.getD 0 0 ∧ (xs.getD 0 0).toNat < s.ext.length) :
    SatV Try.prog 107 [lv, pt] w (.bool (decide (xs.length = 1) && s.ext.getD (xs.getD 0 0).toNat false)) := by
  obtain ⟨_, _, _, he, _, hE, _⟩ := h
  cases he
  have hls := hl.sl
  have hlb := hls.bound
  have hes := hE.sl
  by_cases h1 : xs.length = 1
  · have hx1 := hx h1
    have hx2 : 0 ≤ xs.getD (Int.toNat 0) 0 ∧ (xs.getD (Int.toNat 0) 0).toNat < s.ext.length := hx1
    rw [decide_eq_true h1]
    refine SatL.of 16 [3] Try.func107 (by kernel_rfl) (by kernel_rfl) rfl rfl rfl rfl ?_
    repeat' (first | (apply OK_seq) | (apply thenQ_n) | (apply OK_region) | (refine OK_rid 1 ?_; refine OK_quiet (id := 1) (by kernel_rfl) (by kernel_rfl) ?_) | (apply OKx_nilK) | (apply OK_block) | (apply blockQ_n) | (apply blockQ_s) | (apply thenQ_e) | (apply blockQ_e; exact rfl) | (apply thenQ_r) | (apply blockQ_r) | (apply OK_condT; exact rfl) | (apply OK_condF; exact rfl) | (apply OK_skip) | (apply OK_exit) | (apply OK_ret) | (apply OKx_move; ((conv => lhs; whnf) <;> exact rfl)) | (apply OKx_assign; ((conv => lhs; whnf) <;> exact rfl)) | (apply OKx_ldB; exact rfl; (first | exact at0 | exact at1 | exact at2 | exact at3 | exact at4 | exact at5 | exact at6 | exact at7); exact rfl) | (apply OKx_ldR; ((conv => lhs; whnf) <;> exact rfl); (with_reducible assumption)) | (apply OKx_ldI; exact rfl; (first | exact at0 | exact at1 | exact at2 | exact at3 | exact at4 | exact at5 | exact at6 | exact at7); omega) | (apply OKx_len; exact rfl) | (apply OKx_lenR; ((conv => lhs; whnf) <;> exact rfl); (with_reducible assumption)) | (apply OKx_lenR2; ((conv => lhs; whnf) <;> exact rfl); (with_reducible assumption)) | (apply OKx_lenO; ((conv => lhs; whnf) <;> exact rfl); (first | exact at0 | exact at1 | exact at2 | exact at3 | exact at4 | exact at5 | exact at6 | exact at7)) | (apply OKx_eql; exact rfl; exact rfl; all_goals (intro _; try (exfalso; omega))) | (apply OKx_idxO; exact rfl; exact rfl; omega) | (apply OKx_idxR; ((conv => lhs; whnf) <;> exact rfl); (with_reducible assumption); exact rfl; omega; intro _ _) | (apply OKx_idxOz; exact rfl; exact rfl; omega; omega) | (apply OKx_idxRz; ((conv => lhs; whnf) <;> exact rfl); (with_reducible assumption); exact rfl; omega; omega; intro _ _) | (apply OKx_fldO; exact rfl; exact rfl) | (apply OKx_fldR; ((conv => lhs; whnf) <;> exact rfl); (with_reducible assumption); decide; intro _ _) | (apply OKx_pickT; exact rfl; ((conv => lhs; whnf) <;> exact rfl)) | (apply OKx_pickF; exact rfl; ((conv => lhs; whnf) <;> exact rfl)) | (apply OKx_guardT; exact rfl; exact rfl) | (apply OKx_guardF; exact rfl; exact rfl) | (apply OKx_guardU; exact rfl; exact rfl) | (apply OKx_ldBo; exact rfl; (first | exact at0 | exact at1 | exact at2 | exact at3 | exact at4 | exact at5 | exact at6 | exact at7); omega))
    first | refine bodyQ_r1 (by ((conv => lhs; whnf) <;> exact rfl)) ?_ | refine bodyQ_r2 (by ((conv => lhs; whnf) <;> exact rfl)) (by ((conv => lhs; whnf) <;> exact rfl)) ?_ | refine bodyQ_r3 (by ((conv => lhs; whnf) <;> exact rfl)) (by ((conv => lhs; whnf) <;> exact rfl)) (by ((conv => lhs; whnf) <;> exact rfl)) ?_ | refine bodyQ_r0 ?_ | refine bodyQ_n0 ?_
    exact ⟨_, Ent.nil, bool_eq rfl, rfl⟩
  · rw [decide_eq_false h1]
    refine SatL.of 16 [3] Try.func107 (by kernel_rfl) (by kernel_rfl) rfl rfl rfl rfl ?_
    repeat' (first | (apply OK_seq) | (apply thenQ_n) | (apply OK_region) | (refine OK_rid 1 ?_; refine OK_quiet (id := 1) (by kernel_rfl) (by kernel_rfl) ?_) | (apply OKx_nilK) | (apply OK_block) | (apply blockQ_n) | (apply blockQ_s) | (apply thenQ_e) | (apply blockQ_e; exact rfl) | (apply thenQ_r) | (apply blockQ_r) | (apply OK_condT; exact rfl) | (apply OK_condF; exact rfl) | (apply OK_skip) | (apply OK_exit) | (apply OK_ret) | (apply OKx_move; ((conv => lhs; whnf) <;> exact rfl)) | (apply OKx_assign; ((conv => lhs; whnf) <;> exact rfl)) | (apply OKx_ldB; exact rfl; (first | exact at0 | exact at1 | exact at2 | exact at3 | exact at4 | exact at5 | exact at6 | exact at7); exact rfl) | (apply OKx_ldR; ((conv => lhs; whnf) <;> exact rfl); (with_reducible assumption)) | (apply OKx_ldI; exact rfl; (first | exact at0 | exact at1 | exact at2 | exact at3 | exact at4 | exact at5 | exact at6 | exact at7); omega) | (apply OKx_len; exact rfl) | (apply OKx_lenR; ((conv => lhs; whnf) <;> exact rfl); (with_reducible assumption)) | (apply OKx_lenR2; ((conv => lhs; whnf) <;> exact rfl); (with_reducible assumption)) | (apply OKx_lenO; ((conv => lhs; whnf) <;> exact rfl); (first | exact at0 | exact at1 | exact at2 | exact at3 | exact at4 | exact at5 | exact at6 | exact at7)) | (apply OKx_eql; exact rfl; exact rfl; all_goals (intro _; try (exfalso; omega))) | (apply OKx_idxO; exact rfl; exact rfl; omega) | (apply OKx_idxR; ((conv => lhs; whnf) <;> exact rfl); (with_reducible assumption); exact rfl; omega; intro _ _) | (apply OKx_idxOz; exact rfl; exact rfl; omega; omega) | (apply OKx_idxRz; ((conv => lhs; whnf) <;> exact rfl); (with_reducible assumption); exact rfl; omega; omega; intro _ _) | (apply OKx_fldO; exact rfl; exact rfl) | (apply OKx_fldR; ((conv => lhs; whnf) <;> exact rfl); (with_reducible assumption); decide; intro _ _) | (apply OKx_pickT; exact rfl; ((conv => lhs; whnf) <;> exact rfl)) | (apply OKx_pickF; exact rfl; ((conv => lhs; whnf) <;> exact rfl)) | (apply OKx_guardT; exact rfl; exact rfl) | (apply OKx_guardF; exact rfl; exact rfl) | (apply OKx_guardU; exact rfl; exact rfl) | (apply OKx_ldBo; exact rfl; (first | exact at0 | exact at1 | exact at2 | exact at3 | exact at4 | exact at5 | exact at6 | exact at7); omega))
    all_goals first | refine bodyQ_r1 (by ((conv => lhs; whnf) <;> exact rfl)) ?_ | refine bodyQ_r2 (by ((conv => lhs; whnf) <;> exact rfl)) (by ((conv => lhs; whnf) <;> exact rfl)) ?_ | refine bodyQ_r3 (by ((conv => lhs; whnf) <;> exact rfl)) (by ((conv => lhs; whnf) <;> exact rfl)) (by ((conv => lhs; whnf) <;> exact rfl)) ?_ | refine bodyQ_r0 ?_ | refine bodyQ_n0 ?_
    all_goals exact ⟨_, Ent.nil, bool_eq (by simp), rfl⟩
set_option maxRecDepth 100000 in
set_option maxHeartbeats 4000000 in
theorem der_sat (v : Value) (s : Stem) (w : World) (h : Stm w v s) (hx : ∀ k, k < s.par.length → (s.par.getD k []).length = 1 → 0 ≤ (s.par.getD k []).getD 0 0 ∧ ((s.par.getD k []).getD 0 0).toNat < s.ext.length) :
    Sat Try.prog 82 [v] w (IdxW (derB s) s.par.length) := by
  have hst := h
  obtain ⟨nv, ev, pv, rfl, _, _, hP⟩ := h
  obtain ⟨fv, hpv, hrow⟩ := hP.rows
  have hpb := hpv.bound
  refine SatL.of 7 [2] Try.func82 (by kernel_rfl) (by kernel_rfl) rfl rfl rfl rfl ?_
  repeat' (first | (apply OK_seq) | (apply thenQ_n) | (apply OK_region) | (apply OKx_gc 69; exact rfl; refine OKx_call (f := 69) rfl rfl (fun w1 hp => indexW_tab_sat pv _ fv (derB s) _ _ w1 (hpv.below hp.below) (fun k hk w2 hb => der1_sat _ nv ev pv _ s (s.par.getD k []) w2 (Pt.below (ptBox hp 0 rfl 3 rfl) hb) ((hst.below hp.below).below hb) (((hrow k).below hp.below).below hb) (hx k hk))) ?_; rintro _ _ ⟨rfl, hR⟩) | (apply OKx_nilK) | (apply OK_block) | (apply blockQ_n) | (apply blockQ_s) | (apply thenQ_e) | (apply blockQ_e; exact rfl) | (apply thenQ_r) | (apply blockQ_r) | (apply OK_condT; exact rfl) | (apply OK_condF; exact rfl) | (apply OK_skip) | (apply OK_exit) | (apply OK_ret) | (apply OKx_assign; ((conv => lhs; whnf) <;> exact rfl)) | (apply OKx_ldB; exact rfl; (first | exact at0 | exact at1 | exact at2 | exact at3 | exact at4 | exact at5 | exact at6 | exact at7); exact rfl) | (apply OKx_ldR; ((conv => lhs; whnf) <;> exact rfl); (with_reducible assumption)) | (apply OKx_fldO; exact rfl; exact rfl) | (apply OKx_fldR; ((conv => lhs; whnf) <;> exact rfl); (with_reducible assumption); decide; intro _ _) | (apply OKx_boxA; exact rfl; intro _) | (apply OKx_func; exact rfl; exact rfl))
  first | refine bodyQ_r1 (by ((conv => lhs; whnf) <;> exact rfl)) ?_ | refine bodyQ_r2 (by ((conv => lhs; whnf) <;> exact rfl)) (by ((conv => lhs; whnf) <;> exact rfl)) ?_ | refine bodyQ_r3 (by ((conv => lhs; whnf) <;> exact rfl)) (by ((conv => lhs; whnf) <;> exact rfl)) (by ((conv => lhs; whnf) <;> exact rfl)) ?_ | refine bodyQ_r0 ?_ | refine bodyQ_n0 ?_
  exact ⟨_, Ent.nil, rfl, hR⟩
end Go.Proofs.Ytmclgfipdgmomaa
