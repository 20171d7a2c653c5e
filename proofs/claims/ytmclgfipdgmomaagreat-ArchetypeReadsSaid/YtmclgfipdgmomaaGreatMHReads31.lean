/-
  Part 31 of the proof: Un39, App. No statement of the seat is proved here.
-/
import Derived.Test.YtmclgfipdgmomaaGreatMHReads30
namespace Go.Proofs.YtmclgfipdgmomaaGreat
open Go.RowKit
set_option maxRecDepth 100000 in
set_option maxHeartbeats 4000000 in
theorem indexW_tab_sat (v : Value) (N : Nat) (e : Nat → Value) (p : Nat → Bool) (g : FuncId) (cs : Array Value) (w : World) (h : Sl w v 1 N e) (hf : ∀ k, k < N → ∀ w1, Below w.heap.size w w1 → SatV Tryz.prog g (e k :: cs.toList) w1 (.bool (p k))) :
    Sat Tryz.prog 62 [v, .func (.func g) #[] cs] w (IdxW p N) := by
  have hN := h.bound
  refine SatL.of 19 [4] Tryz.func62 (by kernel_rfl) (by kernel_rfl) rfl rfl rfl rfl ?_
  repeat' (first | (apply OK_seq) | (apply thenQ_n) | (apply OK_region) | (apply OKx_nilK) | (apply OK_block) | (apply blockQ_n) | (apply blockQ_s) | (apply thenQ_e) | (apply blockQ_e; exact rfl) | (apply thenQ_r) | (apply blockQ_r) | (apply OK_condT; exact rfl) | (apply OK_condF; exact rfl) | (apply OK_skip) | (apply OK_exit) | (apply OK_ret) | (apply OKx_move; ((conv => lhs; whnf) <;> exact rfl)) | (apply OKx_assign; ((conv => lhs; whnf) <;> exact rfl)) | (apply OKx_ldB; exact rfl; (first | exact at0 | exact at1 | exact at2 | exact at3 | exact at4 | exact at5 | exact at6 | exact at7); exact rfl) | (apply OKx_ldR; ((conv => lhs; whnf) <;> exact rfl); (with_reducible assumption)) | (apply OKx_len; exact rfl) | (apply OKx_lenR; ((conv => lhs; whnf) <;> exact rfl); (with_reducible assumption)) | (apply OKx_lenR2; ((conv => lhs; whnf) <;> exact rfl); (with_reducible assumption)) | (apply OKx_lenO; ((conv => lhs; whnf) <;> exact rfl); (first | exact at0 | exact at1 | exact at2 | exact at3 | exact at4 | exact at5 | exact at6 | exact at7)) | (apply OKx_lss; exact rfl; exact rfl; all_goals (intro _; try (exfalso; omega))) | (apply OKx_idxO; exact rfl; exact rfl; omega) | (apply OKx_idxR; ((conv => lhs; whnf) <;> exact rfl); (with_reducible assumption); exact rfl; omega; intro _ _) | (apply OKx_idxOz; exact rfl; exact rfl; omega; omega) | (apply OKx_idxRz; ((conv => lhs; whnf) <;> exact rfl); (with_reducible assumption); exact rfl; omega; omega; intro _ _) | (apply OKx_inc; exact rfl; exact rfl; omega) | (apply OKx_addN; exact rfl; exact rfl; omega) | (apply OKx_add; exact rfl; exact rfl; omega; omega))
  refine OK_loop1 8 [4, 5, 8, 9, 10, 11, 12, 13, 14, 15, 16, 17, 18] (fun m v L => ∃ k : Nat, k + m = N ∧ v = .int .i64 (k : Int) ∧ (∀ j, j < k → p j = false) ∧ L = []) N [] (Ent.refl _ _) ⟨0, by omega, rfl, fun j hj => absurd hj (by omega), rfl⟩ ?_
  rintro m v' L G ⟨k, hm, rfl, H, rfl⟩
  repeat' (first | (apply OK_seq) | (apply thenQ_n) | (apply OK_region) | (refine OKx_callB (f := g) rfl rfl rfl (fun w hp => hf k (by omega) w hp.below) ?_ ?_ <;> intro hq) | (apply OKx_nilK) | (apply OK_block) | (apply blockQ_n) | (apply blockQ_s) | (apply thenQ_e) | (apply blockQ_e; exact rfl) | (apply thenQ_r) | (apply blockQ_r) | (apply OK_condT; exact rfl) | (apply OK_condF; exact rfl) | (apply OK_skip) | (apply OK_exit) | (apply OK_ret) | (apply OKx_move; ((conv => lhs; whnf) <;> exact rfl)) | (apply OKx_assign; ((conv => lhs; whnf) <;> exact rfl)) | (apply OKx_ldB; exact rfl; (first | exact at0 | exact at1 | exact at2 | exact at3 | exact at4 | exact at5 | exact at6 | exact at7); exact rfl) | (apply OKx_ldR; ((conv => lhs; whnf) <;> exact rfl); (with_reducible assumption)) | (apply OKx_len; exact rfl) | (apply OKx_lenR; ((conv => lhs; whnf) <;> exact rfl); (with_reducible assumption)) | (apply OKx_lenR2; ((conv => lhs; whnf) <;> exact rfl); (with_reducible assumption)) | (apply OKx_lenO; ((conv => lhs; whnf) <;> exact rfl); (first | exact at0 | exact at1 | exact at2 | exact at3 | exact at4 | exact at5 | exact at6 | exact at7)) | (apply OKx_lss; exact rfl; exact rfl; all_goals (intro _; try (exfalso; omega))) | (apply OKx_idxO; exact rfl; exact rfl; omega) | (apply OKx_idxR; ((conv => lhs; whnf) <;> exact rfl); (with_reducible assumption); exact rfl; omega; intro _ _) | (apply OKx_idxOz; exact rfl; exact rfl; omega; omega) | (apply OKx_idxRz; ((conv => lhs; whnf) <;> exact rfl); (with_reducible assumption); exact rfl; omega; omega; intro _ _) | (apply OKx_inc; exact rfl; exact rfl; omega) | (apply OKx_addN; exact rfl; exact rfl; omega) | (apply OKx_add; exact rfl; exact rfl; omega; omega))
  · first | refine bodyQ_r1 (by ((conv => lhs; whnf) <;> exact rfl)) ?_ | refine bodyQ_r2 (by ((conv => lhs; whnf) <;> exact rfl)) (by ((conv => lhs; whnf) <;> exact rfl)) ?_ | refine bodyQ_r3 (by ((conv => lhs; whnf) <;> exact rfl)) (by ((conv => lhs; whnf) <;> exact rfl)) (by ((conv => lhs; whnf) <;> exact rfl)) ?_ | refine bodyQ_r0 ?_ | refine bodyQ_n0 ?_
    exact ⟨_, Ent.refl _ _, rfl, .inl ⟨k, by omega, rfl, hq, H⟩⟩
  · refine ⟨by (repeat' (first | refine agree_upd rfl ?_ | exact agree_over | exact agree_refl _ _ | refine agree_over2 rfl ?_)), m - 1, _, by omega, Ent.refl _ _, ?_⟩
    refine ⟨k + 1, by omega, rfl, fun j hj => ?_, rfl⟩
    by_cases hjk : j < k
    · exact H j hjk
    · obtain rfl : j = k := by omega
      exact hq
  · first | refine bodyQ_r1 (by ((conv => lhs; whnf) <;> exact rfl)) ?_ | refine bodyQ_r2 (by ((conv => lhs; whnf) <;> exact rfl)) (by ((conv => lhs; whnf) <;> exact rfl)) ?_ | refine bodyQ_r3 (by ((conv => lhs; whnf) <;> exact rfl)) (by ((conv => lhs; whnf) <;> exact rfl)) (by ((conv => lhs; whnf) <;> exact rfl)) ?_ | refine bodyQ_r0 ?_ | refine bodyQ_n0 ?_
    exact ⟨_, Ent.refl _ _, rfl, .inr ⟨rfl, fun j hj => H j (by omega)⟩⟩
set_option maxRecDepth 100000 in
set_option maxHeartbeats 4000000 in
theorem der1_sat (pt nv ev pv lv : Value) (s : Stem) (xs : List Int) (w : World) (hp : Pt w pt 3 (fun j => [nv, ev, pv].getD j undef)) (h : Stm w (.agg #[nv, ev, pv]) s) (hl : Ints w lv xs) (hx : xs.length = 1 → 0 ≤ xs.getD 0 0 ∧ (xs.getD 0 0).toNat < s.ext.length) :
    SatV Tryz.prog 63 [lv, pt] w (.bool (decide (xs.length = 1) && s.ext.getD (xs.getD 0 0).toNat false)) := by
  obtain ⟨_, _, _, he, _, hE, _⟩ := h
  cases he
  have hls := hl.sl
  have hlb := hls.bound
  have hes := hE.sl
  by_cases h1 : xs.length = 1
  · have hx1 := hx h1
    have hx2 : 0 ≤ xs.getD (Int.toNat 0) 0 ∧ (xs.getD (Int.toNat 0) 0).toNat < s.ext.length := hx1
    rw [decide_eq_true h1]
    refine SatL.of 16 [3] Tryz.func63 (by kernel_rfl) (by kernel_rfl) rfl rfl rfl rfl ?_
    repeat' (first | (apply OK_seq) | (apply thenQ_n) | (apply OK_region) | (refine OK_rid 1 ?_; refine OK_quiet (id := 1) (by kernel_rfl) (by kernel_rfl) ?_) | (apply OKx_nilK) | (apply OK_block) | (apply blockQ_n) | (apply blockQ_s) | (apply thenQ_e) | (apply blockQ_e; exact rfl) | (apply thenQ_r) | (apply blockQ_r) | (apply OK_condT; exact rfl) | (apply OK_condF; exact rfl) | (apply OK_skip) | (apply OK_exit) | (apply OK_ret) | (apply OKx_move; ((conv => lhs; whnf) <;> exact rfl)) | (apply OKx_assign; ((conv => lhs; whnf) <;> exact rfl)) | (apply OKx_ldB; exact rfl; (first | exact at0 | exact at1 | exact at2 | exact at3 | exact at4 | exact at5 | exact at6 | exact at7); exact rfl) | (apply OKx_ldR; ((conv => lhs; whnf) <;> exact rfl); (with_reducible assumption)) | (apply OKx_ldI; exact rfl; (first | exact at0 | exact at1 | exact at2 | exact at3 | exact at4 | exact at5 | exact at6 | exact at7); omega) | (apply OKx_len; exact rfl) | (apply OKx_lenR; ((conv => lhs; whnf) <;> exact rfl); (with_reducible assumption)) | (apply OKx_lenR2; ((conv => lhs; whnf) <;> exact rfl); (with_reducible assumption)) | (apply OKx_lenO; ((conv => lhs; whnf) <;> exact rfl); (first | exact at0 | exact at1 | exact at2 | exact at3 | exact at4 | exact at5 | exact at6 | exact at7)) | (apply OKx_eql; exact rfl; exact rfl; all_goals (intro _; try (exfalso; omega))) | (apply OKx_idxO; exact rfl; exact rfl; omega) | (apply OKx_idxR; ((conv => lhs; whnf) <;> exact rfl); (with_reducible assumption); exact rfl; omega; intro _ _) | (apply OKx_idxOz; exact rfl; exact rfl; omega; omega) | (apply OKx_idxRz; ((conv => lhs; whnf) <;> exact rfl); (with_reducible assumption); exact rfl; omega; omega; intro _ _) | (apply OKx_fldO; exact rfl; exact rfl) | (apply OKx_fldR; ((conv => lhs; whnf) <;> exact rfl); (with_reducible assumption); decide; intro _ _) | (apply OKx_pickT; exact rfl; ((conv => lhs; whnf) <;> exact rfl)) | (apply OKx_pickF; exact rfl; ((conv => lhs; whnf) <;> exact rfl)) | (apply OKx_guardT; exact rfl; exact rfl) | (apply OKx_guardF; exact rfl; exact rfl) | (apply OKx_guardU; exact rfl; exact rfl) | (apply OKx_ldBo; exact rfl; (first | exact at0 | exact at1 | exact at2 | exact at3 | exact at4 | exact at5 | exact at6 | exact at7); omega))
    first | refine bodyQ_r1 (by ((conv => lhs; whnf) <;> exact rfl)) ?_ | refine bodyQ_r2 (by ((conv => lhs; whnf) <;> exact rfl)) (by ((conv => lhs; whnf) <;> exact rfl)) ?_ | refine bodyQ_r3 (by ((conv => lhs; whnf) <;> exact rfl)) (by ((conv => lhs; whnf) <;> exact rfl)) (by ((conv => lhs; whnf) <;> exact rfl)) ?_ | refine bodyQ_r0 ?_ | refine bodyQ_n0 ?_
    exact ⟨_, Ent.nil, bool_eq rfl, rfl⟩
  · rw [decide_eq_false h1]
    refine SatL.of 16 [3] Tryz.func63 (by kernel_rfl) (by kernel_rfl) rfl rfl rfl rfl ?_
    repeat' (first | (apply OK_seq) | (apply thenQ_n) | (apply OK_region) | (refine OK_rid 1 ?_; refine OK_quiet (id := 1) (by kernel_rfl) (by kernel_rfl) ?_) | (apply OKx_nilK) | (apply OK_block) | (apply blockQ_n) | (apply blockQ_s) | (apply thenQ_e) | (apply blockQ_e; exact rfl) | (apply thenQ_r) | (apply blockQ_r) | (apply OK_condT; exact rfl) | (apply OK_condF; exact rfl) | (apply OK_skip) | (apply OK_exit) | (apply OK_ret) | (apply OKx_move; ((conv => lhs; whnf) <;> exact rfl)) | (apply OKx_assign; ((conv => lhs; whnf) <;> exact rfl)) | (apply OKx_ldB; exact rfl; (first | exact at0 | exact at1 | exact at2 | exact at3 | exact at4 | exact at5 | exact at6 | exact at7); exact rfl) | (apply OKx_ldR; ((conv => lhs; whnf) <;> exact rfl); (with_reducible assumption)) | (apply OKx_ldI; exact rfl; (first | exact at0 | exact at1 | exact at2 | exact at3 | exact at4 | exact at5 | exact at6 | exact at7); omega) | (apply OKx_len; exact rfl) | (apply OKx_lenR; ((conv => lhs; whnf) <;> exact rfl); (with_reducible assumption)) | (apply OKx_lenR2; ((conv => lhs; whnf) <;> exact rfl); (with_reducible assumption)) | (apply OKx_lenO; ((conv => lhs; whnf) <;> exact rfl); (first | exact at0 | exact at1 | exact at2 | exact at3 | exact at4 | exact at5 | exact at6 | exact at7)) | (apply OKx_eql; exact rfl; exact rfl; all_goals (intro _; try (exfalso; omega))) | (apply OKx_idxO; exact rfl; exact rfl; omega) | (apply OKx_idxR; ((conv => lhs; whnf) <;> exact rfl); (with_reducible assumption); exact rfl; omega; intro _ _) | (apply OKx_idxOz; exact rfl; exact rfl; omega; omega) | (apply OKx_idxRz; ((conv => lhs; whnf) <;> exact rfl); (with_reducible assumption); exact rfl; omega; omega; intro _ _) | (apply OKx_fldO; exact rfl; exact rfl) | (apply OKx_fldR; ((conv => lhs; whnf) <;> exact rfl); (with_reducible assumption); decide; intro _ _) | (apply OKx_pickT; exact rfl; ((conv => lhs; whnf) <;> exact rfl)) | (apply OKx_pickF; exact rfl; ((conv => lhs; whnf) <;> exact rfl)) | (apply OKx_guardT; exact rfl; exact rfl) | (apply OKx_guardF; exact rfl; exact rfl) | (apply OKx_guardU; exact rfl; exact rfl) | (apply OKx_ldBo; exact rfl; (first | exact at0 | exact at1 | exact at2 | exact at3 | exact at4 | exact at5 | exact at6 | exact at7); omega))
    all_goals first | refine bodyQ_r1 (by ((conv => lhs; whnf) <;> exact rfl)) ?_ | refine bodyQ_r2 (by ((conv => lhs; whnf) <;> exact rfl)) (by ((conv => lhs; whnf) <;> exact rfl)) ?_ | refine bodyQ_r3 (by ((conv => lhs; whnf) <;> exact rfl)) (by ((conv => lhs; whnf) <;> exact rfl)) (by ((conv => lhs; whnf) <;> exact rfl)) ?_ | refine bodyQ_r0 ?_ | refine bodyQ_n0 ?_
    all_goals exact ⟨_, Ent.nil, bool_eq (by simp), rfl⟩
set_option maxRecDepth 100000 in
set_option maxHeartbeats 4000000 in
theorem der_sat (v : Value) (s : Stem) (w : World) (h : Stm w v s) (hx : ∀ k, k < s.par.length → (s.par.getD k []).length = 1 → 0 ≤ (s.par.getD k []).getD 0 0 ∧ ((s.par.getD k []).getD 0 0).toNat < s.ext.length) :
    Sat Tryz.prog 39 [v] w (IdxW (derB s) s.par.length) := by
  have hst := h
  obtain ⟨nv, ev, pv, rfl, _, _, hP⟩ := h
  obtain ⟨fv, hpv, hrow⟩ := hP.rows
  have hpb := hpv.bound
  refine SatL.of 7 [2] Tryz.func39 (by kernel_rfl) (by kernel_rfl) rfl rfl rfl rfl ?_
  repeat' (first | (apply OK_seq) | (apply thenQ_n) | (apply OK_region) | (apply OKx_gc 62; exact rfl; refine OKx_call (f := 62) rfl rfl (fun w1 hp => indexW_tab_sat pv _ fv (derB s) _ _ w1 (hpv.below hp.below) (fun k hk w2 hb => der1_sat _ nv ev pv _ s (s.par.getD k []) w2 (Pt.below (ptBox hp 0 rfl 3 rfl) hb) ((hst.below hp.below).below hb) (((hrow k).below hp.below).below hb) (hx k hk))) ?_; rintro _ _ ⟨rfl, hR⟩) | (apply OKx_nilK) | (apply OK_block) | (apply blockQ_n) | (apply blockQ_s) | (apply thenQ_e) | (apply blockQ_e; exact rfl) | (apply thenQ_r) | (apply blockQ_r) | (apply OK_condT; exact rfl) | (apply OK_condF; exact rfl) | (apply OK_skip) | (apply OK_exit) | (apply OK_ret) | (apply OKx_assign; ((conv => lhs; whnf) <;> exact rfl)) | (apply OKx_ldB; exact rfl; (first | exact at0 | exact at1 | exact at2 | exact at3 | exact at4 | exact at5 | exact at6 | exact at7); exact rfl) | (apply OKx_ldR; ((conv => lhs; whnf) <;> exact rfl); (with_reducible assumption)) | (apply OKx_fldO; exact rfl; exact rfl) | (apply OKx_fldR; ((conv => lhs; whnf) <;> exact rfl); (with_reducible assumption); decide; intro _ _) | (apply OKx_boxA; exact rfl; intro _) | (apply OKx_func; exact rfl; exact rfl))
  first | refine bodyQ_r1 (by ((conv => lhs; whnf) <;> exact rfl)) ?_ | refine bodyQ_r2 (by ((conv => lhs; whnf) <;> exact rfl)) (by ((conv => lhs; whnf) <;> exact rfl)) ?_ | refine bodyQ_r3 (by ((conv => lhs; whnf) <;> exact rfl)) (by ((conv => lhs; whnf) <;> exact rfl)) (by ((conv => lhs; whnf) <;> exact rfl)) ?_ | refine bodyQ_r0 ?_ | refine bodyQ_n0 ?_
  exact ⟨_, Ent.nil, rfl, hR⟩
section
variable {P : Program} {n : Nat} {w0 : World} {K : Fm → List Res → Prop} {F : Fm} {L : List Res} {ops : Array Oper} {rest : List Oper}
theorem OKx_world {Lw : List Res} (h : ∀ w, Hp w0.heap.size w0 w L → OKx P n w0 (.seq Lw) ops K rest F L) : OKx P n w0 (.seq Lw) ops K rest F L := by
  unfold OKx
  intro w a hf hp
  exact (h w hp).use w a hf hp
end
end Go.Proofs.YtmclgfipdgmomaaGreat
namespace Go.Proofs.YtmclgfipdgmomaaGreat
open Go.RowKit
section
variable {P : Program} {n : Nat} {w0 : World} {K : Fm → List Res → Prop} {F : Fm} {L Lw : List Res} {ops : Array Oper} {rest : List Oper} {d : Option Nat} {ty : TypeId} {pos : String} {aft : Array Edge}
theorem OKx_appRow {s x : Operand} {t : TypeId} {e e' bytes : Nat} {z : Value} [T : TSlice P t e 1 bytes z] [hE : Keeps w0 L Lw] (i j : Nat) {v u : Value} {N M : Nat} {xs ys : List Value}
    (hs : rv n F s = v) (hx : rv n F x = u) (hi : L[i]? = some (.row e 1 v N xs)) (hj : L[j]? = some (.row e' 1 u M ys)) (hl : ys.length = M) (h1 : ∀ u ∈ ys, u.oneCell' = true) (hN0 : 0 < N)
    (hb : (N + M) * bytes ≤ 140737488355328) (hN : N + M ≤ 9223372036854775807)
    (kk : ∀ g' cap, OKx P n w0 (.seq Lw) ops K rest (updo F d (.slice (some ⟨g', 0, none⟩) (N + M) cap)) (L.set i (.row e 1 (.slice (some ⟨g', 0, none⟩) (N + M) cap) (N + M) (xs ++ ys)))) :
    OKx P n w0 (.seq Lw) ops K (⟨d, .call { callee := .builtin .append, args := #[s, x], argTypes := #[t, t] }, ty, pos, aft, none⟩ :: rest) F L := by
  refine OKx_world fun w hp => ?_
  by_cases hM : M = 0
  · subst hM
    obtain rfl : ys = [] := List.eq_nil_of_length_eq_zero hl
    obtain ⟨g, c, rfl⟩ := hp.rowForm i hi hN0
    have hil := (List.getElem?_eq_some_iff.1 hi).1
    have k2 := kk g c
    rw [List.append_nil, Nat.add_zero] at k2
    have e2 : L.set i (.row e 1 (.slice (some ⟨g, 0, none⟩) N c) N xs) = L := by
      rw [← (List.getElem?_eq_some_iff.1 hi).2, List.set_getElem_self]
    rw [e2] at k2
    obtain ⟨ay, cy, rfl, _⟩ := hp.rowShape j hj
    exact OKx_app0 i hs hx hi k2
  · obtain ⟨g, c, rfl⟩ := hp.rowForm j hj (by omega)
    refine OKx_append i hs hx hi (by omega) (fun w1 hp1 q u hq => ?_) h1 hb hN (by omega) kk
    rw [Nat.zero_add, (hp1.rowAt j hj).1 q (by have := (List.getElem?_eq_some_iff.1 hq).1; omega), hq]
end
end Go.Proofs.YtmclgfipdgmomaaGreat
