/-
  Part 8 of the proof: Ma39, Lg39, Lh39, Open. No statement of the seat is proved here.
-/
import Derived.Test.YtmclgfipdgmomaaMHUndecided7
import Derived.ProofKit
import Derived.SizedLaws
import Derived.Deep.Strs
namespace Go.Proofs.Ytmclgfipdgmomaa
open Go.RowKit Go.Maps
theorem zeroI39 (w : World) : (zeroValue 3).run Try.prog w = .ok (.int .i64 0) w := by kernel_rfl
def cntM (s : Stem) (st : List Int) (r : Int) (k : Nat) (x : Int) : Nat := ((List.range k).filter (fun n => hasI (s.par.getD n []) r && ((braV s st n).2 && (braV s st n).1 == x))).length
theorem cntM_step (s : Stem) (st : List Int) (r : Int) (k : Nat) (x : Int) : cntM s st r (k + 1) x = cntM s st r k x + if hasI (s.par.getD k []) r = true ∧ (braV s st k).2 = true ∧ (braV s st k).1 = x then 1 else 0 := by
  unfold cntM
  rw [List.range_succ, List.filter_append, List.length_append]
  congr 1
  by_cases h : hasI (s.par.getD k []) r = true ∧ (braV s st k).2 = true ∧ (braV s st k).1 = x
  · rw [if_pos h, List.filter_cons_of_pos (by simp only [Bool.and_eq_true, beq_iff_eq]; exact h)]; rfl
  · rw [if_neg h, List.filter_cons_of_neg (by simp only [Bool.and_eq_true, beq_iff_eq]; exact h)]; rfl
theorem cntM_le (s : Stem) (st : List Int) (r : Int) (k : Nat) (x : Int) : cntM s st r k x ≤ k := by
  unfold cntM
  exact Nat.le_trans (List.length_filter_le _ _) (by simp)
def majK (c : Int → Nat) : Nat → Int × Bool
  | 0 => (-1, false)
  | k + 1 => if c k = 0 ∨ (0 ≤ (majK c k).1 ∧ c k < c (majK c k).1) then majK c k else if 0 ≤ (majK c k).1 ∧ c k = c (majK c k).1 then ((majK c k).1, false) else ((k : Int), true)
theorem majK_range (c : Int → Nat) : ∀ k, -1 ≤ (majK c k).1 ∧ (majK c k).1 < k
  | 0 => by simp [majK]
  | k + 1 => by
    have := majK_range c k
    rw [majK]
    split
    · omega
    · split
      · dsimp only; omega
      · dsimp only; omega
theorem braV_range {s : Stem} {st : List Int} (i : Nat) (h : ∀ x ∈ st, x < 16) (hz : ∀ n : Int, n ∈ braL s i → n.toNat < st.length) : (braV s st i).2 = true → 0 ≤ (braV s st i).1 ∧ (braV s st i).1 < 16 := by
  have key : ∀ xs : List Int, (∀ x ∈ xs, 0 ≤ x ∧ x < 16) → (brOne xs).2 = true → 0 ≤ (brOne xs).1 ∧ (brOne xs).1 < 16 := fun xs hx hb => by
    cases xs with
    | nil => cases hb
    | cons x r =>
      have := hx x (by simp)
      have e : brOne (x :: r) = if (r.all fun y => y == x) = true then (x, true) else ((0 : Int), false) := rfl
      rw [e]
      split
      · exact this
      · dsimp only; omega
  refine key _ fun x hx => ?_
  unfold brK at hx
  rw [List.take_length, List.mem_filter] at hx
  obtain ⟨h1, h2⟩ := hx
  obtain ⟨n, hn, rfl⟩ := List.mem_map.1 h1
  have h3 := h _ (getD_mem39 st n.toNat 0 (hz n hn))
  simp only [decide_eq_true_eq] at h2
  omega
def majE (s : Stem) (st : List Int) : Int := rooE s st
def majO (s : Stem) (st : List Int) : Int × Bool := majK (cntM s st (rooV s st) s.par.length) 16
def majV (s : Stem) (st : List Int) : Int := if majE s st ≠ 0 ∨ (majO s st).2 = false then 0 else (majO s st).1
def majB (s : Stem) (st : List Int) : Bool := if majE s st ≠ 0 then false else (majO s st).2
set_option maxRecDepth 100000 in
set_option maxHeartbeats 4000000 in
theorem Maj_sat (v sv : Value) (s : Stem) (st : List Int) (w : World) (h : Stm w v s) (hs : Ints w sv st) : SatV Try.prog 53 [v, sv] w (.tuple #[.int .i64 (majV s st), .bool (majB s st), .int .i64 (majE s st)]) := by
  have hst := h
  obtain ⟨nv, ev, pv, rfl, _, _, hP⟩ := h
  obtain ⟨fv, hpv, hrow⟩ := hP.rows
  have hpb := hpv.bound
  by_cases hr : rooE s st = 0
  rotate_left
  · have e1 : majE s st = rooE s st := rfl
    have e2 : majV s st = 0 := if_pos (.inl hr)
    have e3 : majB s st = false := if_pos hr
    refine SatL.of 87 [4, 5, 6] Try.func53 (by kernel_rfl) (by kernel_rfl) rfl rfl rfl rfl ?_
    repeat' (first | (apply OK_seq) | (apply thenQ_n) | (apply OK_region) | (refine OKx_callV (f := 88) rfl rfl rfl (fun w1 hp => root_sat _ _ s st w1 (hst.below hp.below) (hs.below hp.below)) ?_) | (apply OKx_nilK) | (apply OK_block) | (apply blockQ_n) | (apply blockQ_s) | (apply thenQ_e) | (apply blockQ_e; exact rfl) | (apply thenQ_r) | (apply blockQ_r) | (apply OK_condT; exact rfl) | (apply OK_condF; exact rfl) | (apply OK_skip) | (apply OK_exit) | (apply OK_ret) | (apply OKx_move; ((conv => lhs; whnf) <;> exact rfl)) | (apply OKx_assign; ((conv => lhs; whnf) <;> exact rfl)) | (apply OKx_ldB; exact rfl; (first | exact at0 | exact at1 | exact at2 | exact at3 | exact at4 | exact at5 | exact at6 | exact at7); exact rfl) | (apply OKx_ldR; ((conv => lhs; whnf) <;> exact rfl); (with_reducible assumption)) | (apply OKx_len; exact rfl) | (apply OKx_lenR; ((conv => lhs; whnf) <;> exact rfl); (with_reducible assumption)) | (apply OKx_lenR2; ((conv => lhs; whnf) <;> exact rfl); (with_reducible assumption)) | (apply OKx_lenO; ((conv => lhs; whnf) <;> exact rfl); (first | exact at0 | exact at1 | exact at2 | exact at3 | exact at4 | exact at5 | exact at6 | exact at7)) | (apply OKx_lss; exact rfl; exact rfl; all_goals (intro _; try (exfalso; omega))) | (apply OKx_geq; exact rfl; exact rfl; all_goals (intro _; try (exfalso; omega))) | (apply OKx_eql; exact rfl; exact rfl; all_goals (intro _; try (exfalso; omega))) | (apply OKx_neq; exact rfl; exact rfl; all_goals (intro _; try (exfalso; omega))) | (apply OKx_idxO; exact rfl; exact rfl; omega) | (apply OKx_idxR; ((conv => lhs; whnf) <;> exact rfl); (with_reducible assumption); exact rfl; omega; intro _ _) | (apply OKx_idxOz; exact rfl; exact rfl; omega; omega) | (apply OKx_idxRz; ((conv => lhs; whnf) <;> exact rfl); (with_reducible assumption); exact rfl; omega; omega; intro _ _) | (apply OKx_fldO; exact rfl; exact rfl) | (apply OKx_fldR; ((conv => lhs; whnf) <;> exact rfl); (with_reducible assumption); decide; intro _ _) | (apply OKx_inc; exact rfl; exact rfl; omega) | (apply OKx_addN; exact rfl; exact rfl; omega) | (apply OKx_add; exact rfl; exact rfl; omega; omega) | (apply OKx_pickT; exact rfl; ((conv => lhs; whnf) <;> exact rfl)) | (apply OKx_pickF; exact rfl; ((conv => lhs; whnf) <;> exact rfl)) | (apply OKx_guardT; exact rfl; exact rfl) | (apply OKx_guardF; exact rfl; exact rfl) | (apply OKx_guardU; exact rfl; exact rfl) | (apply OKx_notT; exact rfl) | (apply OKx_notF; exact rfl) | (apply OKx_extract; exact rfl; ((conv => lhs; whnf) <;> exact rfl)) | (apply OKx_boxA; exact rfl; intro _) | (apply OKx_ldBA; exact rfl; (first | exact at0 | exact at1 | exact at2 | exact at3 | exact at4 | exact at5 | exact at6 | exact at7); exact rfl) | (apply OKx_ldRA; ((conv => lhs; whnf) <;> exact rfl); (with_reducible assumption)))
    first | refine bodyQ_r1 (by ((conv => lhs; whnf) <;> exact rfl)) ?_ | refine bodyQ_r2 (by ((conv => lhs; whnf) <;> exact rfl)) (by ((conv => lhs; whnf) <;> exact rfl)) ?_ | refine bodyQ_r3 (by ((conv => lhs; whnf) <;> exact rfl)) (by ((conv => lhs; whnf) <;> exact rfl)) (by ((conv => lhs; whnf) <;> exact rfl)) ?_ | refine bodyQ_r0 ?_ | refine bodyQ_n0 ?_
    exact ⟨_, Ent.nil, by rw [e2, e3, e1], rfl⟩
  have hc := (rooE_zero hr).1
  obtain ⟨hc1, hc2, hc3⟩ := chkC_zero hc
  have hlen := stCheck_len s hc1
  have hra := rooV_at hr
  have e1 : majE s st = 0 := hr
  have e2 : majV s st = if (majO s st).2 = false then 0 else (majO s st).1 := by
    unfold majV
    by_cases h : (majO s st).2 = false
    · rw [if_pos (.inr h), if_pos h]
    · rw [if_neg (fun h2 => h2.elim (fun h3 => h3 e1) h), if_neg h]
  have e3 : majB s st = (majO s st).2 := if_neg (by omega)
  have hO : majO s st = majK (cntM s st (rooV s st) s.par.length) 16 := rfl
  have hbr := fun k (hk : k < s.par.length) => braV_range (s := s) (st := st) k (fun x hx => (hc3 x hx).2) (fun n hn => by
    unfold braL at hn
    rcases List.mem_cons.1 hn with e | e
    · rw [e]; omega
    · have := dsnL_nat s.par k s.par.length _ e
      omega)
  generalize hR : rooV s st = r at *
  generalize hMO : majO s st = mo at *
  refine SatL.of 87 [4, 5, 6] Try.func53 (by kernel_rfl) (by kernel_rfl) rfl rfl rfl rfl ?_
  repeat' (first | (apply OK_seq) | (apply thenQ_n) | (apply OK_region) | (refine OKx_callV (f := 88) (v := .tuple #[.int .i64 r, .int .i64 0]) rfl rfl rfl (fun w1 hp => by rw [← hR, ← hr]; exact root_sat _ _ s st w1 (hst.below hp.below) (hs.below hp.below)) ?_) | (refine OKx_mkMap 3 ?_; intro gm) | (apply OKx_nilK) | (apply OK_block) | (apply blockQ_n) | (apply blockQ_s) | (apply thenQ_e) | (apply blockQ_e; exact rfl) | (apply thenQ_r) | (apply blockQ_r) | (apply OK_condT; exact rfl) | (apply OK_condF; exact rfl) | (apply OK_skip) | (apply OK_exit) | (apply OK_ret) | (apply OKx_move; ((conv => lhs; whnf) <;> exact rfl)) | (apply OKx_assign; ((conv => lhs; whnf) <;> exact rfl)) | (apply OKx_ldB; exact rfl; (first | exact at0 | exact at1 | exact at2 | exact at3 | exact at4 | exact at5 | exact at6 | exact at7); exact rfl) | (apply OKx_ldR; ((conv => lhs; whnf) <;> exact rfl); (with_reducible assumption)) | (apply OKx_len; exact rfl) | (apply OKx_lenR; ((conv => lhs; whnf) <;> exact rfl); (with_reducible assumption)) | (apply OKx_lenR2; ((conv => lhs; whnf) <;> exact rfl); (with_reducible assumption)) | (apply OKx_lenO; ((conv => lhs; whnf) <;> exact rfl); (first | exact at0 | exact at1 | exact at2 | exact at3 | exact at4 | exact at5 | exact at6 | exact at7)) | (apply OKx_lss; exact rfl; exact rfl; all_goals (intro _; try (exfalso; omega))) | (apply OKx_geq; exact rfl; exact rfl; all_goals (intro _; try (exfalso; omega))) | (apply OKx_eql; exact rfl; exact rfl; all_goals (intro _; try (exfalso; omega))) | (apply OKx_neq; exact rfl; exact rfl; all_goals (intro _; try (exfalso; omega))) | (apply OKx_idxO; exact rfl; exact rfl; omega) | (apply OKx_idxR; ((conv => lhs; whnf) <;> exact rfl); (with_reducible assumption); exact rfl; omega; intro _ _) | (apply OKx_idxOz; exact rfl; exact rfl; omega; omega) | (apply OKx_idxRz; ((conv => lhs; whnf) <;> exact rfl); (with_reducible assumption); exact rfl; omega; omega; intro _ _) | (apply OKx_fldO; exact rfl; exact rfl) | (apply OKx_fldR; ((conv => lhs; whnf) <;> exact rfl); (with_reducible assumption); decide; intro _ _) | (apply OKx_inc; exact rfl; exact rfl; omega) | (apply OKx_addN; exact rfl; exact rfl; omega) | (apply OKx_add; exact rfl; exact rfl; omega; omega) | (apply OKx_pickT; exact rfl; ((conv => lhs; whnf) <;> exact rfl)) | (apply OKx_pickF; exact rfl; ((conv => lhs; whnf) <;> exact rfl)) | (apply OKx_guardT; exact rfl; exact rfl) | (apply OKx_guardF; exact rfl; exact rfl) | (apply OKx_guardU; exact rfl; exact rfl) | (apply OKx_notT; exact rfl) | (apply OKx_notF; exact rfl) | (apply OKx_extract; exact rfl; ((conv => lhs; whnf) <;> exact rfl)) | (apply OKx_boxA; exact rfl; intro _) | (apply OKx_ldBA; exact rfl; (first | exact at0 | exact at1 | exact at2 | exact at3 | exact at4 | exact at5 | exact at6 | exact at7); exact rfl) | (apply OKx_ldRA; ((conv => lhs; whnf) <;> exact rfl); (with_reducible assumption)))
  rename_i g2 _
  refine OK_loop1 31 [10, 11, 12, 13, 31, 32, 33, 34, 35, 36, 37, 38, 39, 40, 41, 42, 43, 44, 45, 46, 47, 48, 49, 50, 51] (fun m v L => ∃ (k c : Nat) (Fk : Lit → Option Value), k + m = s.par.length ∧ v = .int .i64 (k : Int) ∧ c ≤ k ∧ (∀ y : Int, (Fk (.int .i64 y)).getD (.int .i64 0) = .int .i64 (cntM s st r k y : Int)) ∧ L = [.obj gm (MapIs Try.prog 3 c Fk), .box 26 g2 [nv, ev, pv]]) s.par.length _ (Ent.refl _ _) ⟨0, 0, _, by omega, rfl, by omega, fun y => rfl, rfl⟩ ?_
  rintro m v L G ⟨k, c, Fk, hm, rfl, hck, hF, rfl⟩
  by_cases hk : k < s.par.length
  · have hstep := cntM_step s st r k
    have hrk := hrow k
    have hle := cntM_le s st r k
    have hbrk := hbr k hk
    cases hcop : hasI (s.par.getD k []) r
    · repeat' (first | (apply OK_seq) | (apply thenQ_n) | (apply OK_region) | (refine OKx_callV (f := 28) (v := .bool false) rfl rfl rfl (fun w1 hp => hcop ▸ contains_int_sat _ (s.par.getD k []) _ w1 (hrk.below hp.below)) ?_) | (apply OKx_nilK) | (apply OK_block) | (apply blockQ_n) | (apply blockQ_s) | (apply thenQ_e) | (apply blockQ_e; exact rfl) | (apply thenQ_r) | (apply blockQ_r) | (apply OK_condT; exact rfl) | (apply OK_condF; exact rfl) | (apply OK_skip) | (apply OK_exit) | (apply OK_ret) | (apply OKx_move; ((conv => lhs; whnf) <;> exact rfl)) | (apply OKx_assign; ((conv => lhs; whnf) <;> exact rfl)) | (apply OKx_ldB; exact rfl; (first | exact at0 | exact at1 | exact at2 | exact at3 | exact at4 | exact at5 | exact at6 | exact at7); exact rfl) | (apply OKx_ldR; ((conv => lhs; whnf) <;> exact rfl); (with_reducible assumption)) | (apply OKx_len; exact rfl) | (apply OKx_lenR; ((conv => lhs; whnf) <;> exact rfl); (with_reducible assumption)) | (apply OKx_lenR2; ((conv => lhs; whnf) <;> exact rfl); (with_reducible assumption)) | (apply OKx_lenO; ((conv => lhs; whnf) <;> exact rfl); (first | exact at0 | exact at1 | exact at2 | exact at3 | exact at4 | exact at5 | exact at6 | exact at7)) | (apply OKx_lss; exact rfl; exact rfl; all_goals (intro _; try (exfalso; omega))) | (apply OKx_geq; exact rfl; exact rfl; all_goals (intro _; try (exfalso; omega))) | (apply OKx_eql; exact rfl; exact rfl; all_goals (intro _; try (exfalso; omega))) | (apply OKx_neq; exact rfl; exact rfl; all_goals (intro _; try (exfalso; omega))) | (apply OKx_idxO; exact rfl; exact rfl; omega) | (apply OKx_idxR; ((conv => lhs; whnf) <;> exact rfl); (with_reducible assumption); exact rfl; omega; intro _ _) | (apply OKx_idxOz; exact rfl; exact rfl; omega; omega) | (apply OKx_idxRz; ((conv => lhs; whnf) <;> exact rfl); (with_reducible assumption); exact rfl; omega; omega; intro _ _) | (apply OKx_fldO; exact rfl; exact rfl) | (apply OKx_fldR; ((conv => lhs; whnf) <;> exact rfl); (with_reducible assumption); decide; intro _ _) | (apply OKx_inc; exact rfl; exact rfl; omega) | (apply OKx_addN; exact rfl; exact rfl; omega) | (apply OKx_add; exact rfl; exact rfl; omega; omega) | (apply OKx_pickT; exact rfl; ((conv => lhs; whnf) <;> exact rfl)) | (apply OKx_pickF; exact rfl; ((conv => lhs; whnf) <;> exact rfl)) | (apply OKx_guardT; exact rfl; exact rfl) | (apply OKx_guardF; exact rfl; exact rfl) | (apply OKx_guardU; exact rfl; exact rfl) | (apply OKx_notT; exact rfl) | (apply OKx_notF; exact rfl) | (apply OKx_extract; exact rfl; ((conv => lhs; whnf) <;> exact rfl)) | (apply OKx_boxA; exact rfl; intro _) | (apply OKx_ldBA; exact rfl; (first | exact at0 | exact at1 | exact at2 | exact at3 | exact at4 | exact at5 | exact at6 | exact at7); exact rfl) | (apply OKx_ldRA; ((conv => lhs; whnf) <;> exact rfl); (with_reducible assumption)))
      refine ⟨by (repeat' (first | refine agree_upd rfl ?_ | exact agree_over | exact agree_refl _ _ | refine agree_over2 rfl ?_)), m - 1, _, by omega, Ent.refl _ _, ?_⟩
      exact ⟨k + 1, c, Fk, by omega, rfl, by omega, fun y => by rw [hF y, hstep y, if_neg (by rw [hcop]; simp)]; rfl, rfl⟩
    · have hct : ∀ w1, Below w.heap.size w w1 → SatV Try.prog 28 [fv k, .int .i64 r] w1 (.bool true) := fun w1 hb => by
        have := contains_int_sat (fv k) (s.par.getD k []) r w1 (hrk.below hb)
        rwa [hcop] at this
      generalize hbv : braV s st k = bv at *
      obtain ⟨bx, bb⟩ := bv
      dsimp only at *
      cases bb
      · repeat' (first | (apply OK_seq) | (apply thenQ_n) | (apply OK_region) | (refine OKx_callV (f := 28) (v := .bool true) rfl rfl rfl (fun w1 hp => hct w1 hp.below) ?_) | (refine OKx_callV (f := 89) (v := .tuple #[.int .i64 bx, .bool false]) rfl rfl rfl (fun w1 hp => by have := bra_sat _ _ s st k w1 (hst.below hp.below) (hs.below hp.below) hc1 hk hc2; rwa [hbv] at this) ?_) | (apply OKx_nilK) | (apply OK_block) | (apply blockQ_n) | (apply blockQ_s) | (apply thenQ_e) | (apply blockQ_e; exact rfl) | (apply thenQ_r) | (apply blockQ_r) | (apply OK_condT; exact rfl) | (apply OK_condF; exact rfl) | (apply OK_skip) | (apply OK_exit) | (apply OK_ret) | (apply OKx_move; ((conv => lhs; whnf) <;> exact rfl)) | (apply OKx_assign; ((conv => lhs; whnf) <;> exact rfl)) | (apply OKx_ldB; exact rfl; (first | exact at0 | exact at1 | exact at2 | exact at3 | exact at4 | exact at5 | exact at6 | exact at7); exact rfl) | (apply OKx_ldR; ((conv => lhs; whnf) <;> exact rfl); (with_reducible assumption)) | (apply OKx_len; exact rfl) | (apply OKx_lenR; ((conv => lhs; whnf) <;> exact rfl); (with_reducible assumption)) | (apply OKx_lenR2; ((conv => lhs; whnf) <;> exact rfl); (with_reducible assumption)) | (apply OKx_lenO; ((conv => lhs; whnf) <;> exact rfl); (first | exact at0 | exact at1 | exact at2 | exact at3 | exact at4 | exact at5 | exact at6 | exact at7)) | (apply OKx_lss; exact rfl; exact rfl; all_goals (intro _; try (exfalso; omega))) | (apply OKx_geq; exact rfl; exact rfl; all_goals (intro _; try (exfalso; omega))) | (apply OKx_eql; exact rfl; exact rfl; all_goals (intro _; try (exfalso; omega))) | (apply OKx_neq; exact rfl; exact rfl; all_goals (intro _; try (exfalso; omega))) | (apply OKx_idxO; exact rfl; exact rfl; omega) | (apply OKx_idxR; ((conv => lhs; whnf) <;> exact rfl); (with_reducible assumption); exact rfl; omega; intro _ _) | (apply OKx_idxOz; exact rfl; exact rfl; omega; omega) | (apply OKx_idxRz; ((conv => lhs; whnf) <;> exact rfl); (with_reducible assumption); exact rfl; omega; omega; intro _ _) | (apply OKx_fldO; exact rfl; exact rfl) | (apply OKx_fldR; ((conv => lhs; whnf) <;> exact rfl); (with_reducible assumption); decide; intro _ _) | (apply OKx_inc; exact rfl; exact rfl; omega) | (apply OKx_addN; exact rfl; exact rfl; omega) | (apply OKx_add; exact rfl; exact rfl; omega; omega) | (apply OKx_pickT; exact rfl; ((conv => lhs; whnf) <;> exact rfl)) | (apply OKx_pickF; exact rfl; ((conv => lhs; whnf) <;> exact rfl)) | (apply OKx_guardT; exact rfl; exact rfl) | (apply OKx_guardF; exact rfl; exact rfl) | (apply OKx_guardU; exact rfl; exact rfl) | (apply OKx_notT; exact rfl) | (apply OKx_notF; exact rfl) | (apply OKx_extract; exact rfl; ((conv => lhs; whnf) <;> exact rfl)) | (apply OKx_boxA; exact rfl; intro _) | (apply OKx_ldBA; exact rfl; (first | exact at0 | exact at1 | exact at2 | exact at3 | exact at4 | exact at5 | exact at6 | exact at7); exact rfl) | (apply OKx_ldRA; ((conv => lhs; whnf) <;> exact rfl); (with_reducible assumption)))
        refine ⟨by (repeat' (first | refine agree_upd rfl ?_ | exact agree_over | exact agree_refl _ _ | refine agree_over2 rfl ?_)), m - 1, _, by omega, Ent.refl _ _, ?_⟩
        exact ⟨k + 1, c, Fk, by omega, rfl, by omega, fun y => by rw [hF y, hstep y, if_neg (by simp)]; rfl, rfl⟩
      · have hbx := hbrk rfl
        have hle2 := hle bx
        repeat' (first | (apply OK_seq) | (apply thenQ_n) | (apply OK_region) | (refine OKx_callV (f := 28) (v := .bool true) rfl rfl rfl (fun w1 hp => hct w1 hp.below) ?_) | (refine OKx_callV (f := 89) (v := .tuple #[.int .i64 bx, .bool true]) rfl rfl rfl (fun w1 hp => by have := bra_sat _ _ s st k w1 (hst.below hp.below) (hs.below hp.below) hc1 hk hc2; rwa [hbv] at this) ?_) | (refine OKx_look 0 rfl rfl rfl TKeyI Try.underlying100 zeroI39 (keyI _ (by omega) (by omega)) (litI _) (hF _) ?_) | (refine OKx_mapSet 0 rfl rfl rfl rfl TKeyI Try.underlying100 (by omega) (keyI _ (by omega) (by omega)) (litI _) ?_) | (apply OKx_nilK) | (apply OK_block) | (apply blockQ_n) | (apply blockQ_s) | (apply thenQ_e) | (apply blockQ_e; exact rfl) | (apply thenQ_r) | (apply blockQ_r) | (apply OK_condT; exact rfl) | (apply OK_condF; exact rfl) | (apply OK_skip) | (apply OK_exit) | (apply OK_ret) | (apply OKx_move; ((conv => lhs; whnf) <;> exact rfl)) | (apply OKx_assign; ((conv => lhs; whnf) <;> exact rfl)) | (apply OKx_ldB; exact rfl; (first | exact at0 | exact at1 | exact at2 | exact at3 | exact at4 | exact at5 | exact at6 | exact at7); exact rfl) | (apply OKx_ldR; ((conv => lhs; whnf) <;> exact rfl); (with_reducible assumption)) | (apply OKx_len; exact rfl) | (apply OKx_lenR; ((conv => lhs; whnf) <;> exact rfl); (with_reducible assumption)) | (apply OKx_lenR2; ((conv => lhs; whnf) <;> exact rfl); (with_reducible assumption)) | (apply OKx_lenO; ((conv => lhs; whnf) <;> exact rfl); (first | exact at0 | exact at1 | exact at2 | exact at3 | exact at4 | exact at5 | exact at6 | exact at7)) | (apply OKx_lss; exact rfl; exact rfl; all_goals (intro _; try (exfalso; omega))) | (apply OKx_geq; exact rfl; exact rfl; all_goals (intro _; try (exfalso; omega))) | (apply OKx_eql; exact rfl; exact rfl; all_goals (intro _; try (exfalso; omega))) | (apply OKx_neq; exact rfl; exact rfl; all_goals (intro _; try (exfalso; omega))) | (apply OKx_idxO; exact rfl; exact rfl; omega) | (apply OKx_idxR; ((conv => lhs; whnf) <;> exact rfl); (with_reducible assumption); exact rfl; omega; intro _ _) | (apply OKx_idxOz; exact rfl; exact rfl; omega; omega) | (apply OKx_idxRz; ((conv => lhs; whnf) <;> exact rfl); (with_reducible assumption); exact rfl; omega; omega; intro _ _) | (apply OKx_fldO; exact rfl; exact rfl) | (apply OKx_fldR; ((conv => lhs; whnf) <;> exact rfl); (with_reducible assumption); decide; intro _ _) | (apply OKx_inc; exact rfl; exact rfl; omega) | (apply OKx_addN; exact rfl; exact rfl; omega) | (apply OKx_add; exact rfl; exact rfl; omega; omega) | (apply OKx_pickT; exact rfl; ((conv => lhs; whnf) <;> exact rfl)) | (apply OKx_pickF; exact rfl; ((conv => lhs; whnf) <;> exact rfl)) | (apply OKx_guardT; exact rfl; exact rfl) | (apply OKx_guardF; exact rfl; exact rfl) | (apply OKx_guardU; exact rfl; exact rfl) | (apply OKx_notT; exact rfl) | (apply OKx_notF; exact rfl) | (apply OKx_extract; exact rfl; ((conv => lhs; whnf) <;> exact rfl)) | (apply OKx_boxA; exact rfl; intro _) | (apply OKx_ldBA; exact rfl; (first | exact at0 | exact at1 | exact at2 | exact at3 | exact at4 | exact at5 | exact at6 | exact at7); exact rfl) | (apply OKx_ldRA; ((conv => lhs; whnf) <;> exact rfl); (with_reducible assumption)))
        refine ⟨by (repeat' (first | refine agree_upd rfl ?_ | exact agree_over | exact agree_refl _ _ | refine agree_over2 rfl ?_)), m - 1, _, by omega, Ent.refl _ _, ?_⟩
        refine ⟨k + 1, c + 1, _, by omega, rfl, by omega, fun y => ?_, rfl⟩
        rw [hstep y]
        unfold putF
        by_cases hy : y = bx
        · subst hy
          rw [if_pos (WideAt.sameKey_self (litI _)), if_pos ⟨hcop, rfl, rfl⟩]
          rfl
        · rw [if_neg (by rw [sameKey_ne (by intro e; simp only [Lit.int.injEq] at e; exact hy e.2)]; simp), if_neg (fun h => hy h.2.2.symm), hF y]
          rfl
  obtain rfl : k = s.par.length := by omega
  generalize hcf : cntM s st r s.par.length = cf at *
  have hcle : ∀ x, cf x ≤ s.par.length := fun x => by rw [← hcf]; exact cntM_le s st r s.par.length x
  repeat' (first | (apply OK_seq) | (apply thenQ_n) | (apply OK_region) | (apply OKx_nilK) | (apply OK_block) | (apply blockQ_n) | (apply blockQ_s) | (apply thenQ_e) | (apply blockQ_e; exact rfl) | (apply thenQ_r) | (apply blockQ_r) | (apply OK_condT; exact rfl) | (apply OK_condF; exact rfl) | (apply OK_skip) | (apply OK_exit) | (apply OK_ret) | (apply OKx_move; ((conv => lhs; whnf) <;> exact rfl)) | (apply OKx_assign; ((conv => lhs; whnf) <;> exact rfl)) | (apply OKx_ldB; exact rfl; (first | exact at0 | exact at1 | exact at2 | exact at3 | exact at4 | exact at5 | exact at6 | exact at7); exact rfl) | (apply OKx_ldR; ((conv => lhs; whnf) <;> exact rfl); (with_reducible assumption)) | (apply OKx_len; exact rfl) | (apply OKx_lenR; ((conv => lhs; whnf) <;> exact rfl); (with_reducible assumption)) | (apply OKx_lenR2; ((conv => lhs; whnf) <;> exact rfl); (with_reducible assumption)) | (apply OKx_lenO; ((conv => lhs; whnf) <;> exact rfl); (first | exact at0 | exact at1 | exact at2 | exact at3 | exact at4 | exact at5 | exact at6 | exact at7)) | (apply OKx_lss; exact rfl; exact rfl; all_goals (intro _; try (exfalso; omega))) | (apply OKx_geq; exact rfl; exact rfl; all_goals (intro _; try (exfalso; omega))) | (apply OKx_eql; exact rfl; exact rfl; all_goals (intro _; try (exfalso; omega))) | (apply OKx_neq; exact rfl; exact rfl; all_goals (intro _; try (exfalso; omega))) | (apply OKx_idxO; exact rfl; exact rfl; omega) | (apply OKx_idxR; ((conv => lhs; whnf) <;> exact rfl); (with_reducible assumption); exact rfl; omega; intro _ _) | (apply OKx_idxOz; exact rfl; exact rfl; omega; omega) | (apply OKx_idxRz; ((conv => lhs; whnf) <;> exact rfl); (with_reducible assumption); exact rfl; omega; omega; intro _ _) | (apply OKx_fldO; exact rfl; exact rfl) | (apply OKx_fldR; ((conv => lhs; whnf) <;> exact rfl); (with_reducible assumption); decide; intro _ _) | (apply OKx_inc; exact rfl; exact rfl; omega) | (apply OKx_addN; exact rfl; exact rfl; omega) | (apply OKx_add; exact rfl; exact rfl; omega; omega) | (apply OKx_pickT; exact rfl; ((conv => lhs; whnf) <;> exact rfl)) | (apply OKx_pickF; exact rfl; ((conv => lhs; whnf) <;> exact rfl)) | (apply OKx_guardT; exact rfl; exact rfl) | (apply OKx_guardF; exact rfl; exact rfl) | (apply OKx_guardU; exact rfl; exact rfl) | (apply OKx_notT; exact rfl) | (apply OKx_notF; exact rfl) | (apply OKx_extract; exact rfl; ((conv => lhs; whnf) <;> exact rfl)) | (apply OKx_boxA; exact rfl; intro _) | (apply OKx_ldBA; exact rfl; (first | exact at0 | exact at1 | exact at2 | exact at3 | exact at4 | exact at5 | exact at6 | exact at7); exact rfl) | (apply OKx_ldRA; ((conv => lhs; whnf) <;> exact rfl); (with_reducible assumption)))
  refine OK_loop3 14 15 52 [14, 15, 16, 17, 52, 53, 54, 55, 56, 57, 58, 59, 60, 61, 62, 63, 64, 65, 66, 67, 68, 69, 70, 71, 72, 73, 74, 75, 76, 77, 78, 79, 80, 81, 82, 83] (fun m u v2 v3 L => ∃ (k : Nat) (o : Int × Bool), k + m = 16 ∧ majK cf k = o ∧ u = .int .i64 o.1 ∧ v2 = .bool o.2 ∧ v3 = .int .i64 (k : Int) ∧ L = [.obj gm (MapIs Try.prog 3 c Fk)]) 16 _ (Ent.pick [0] rfl) ⟨0, _, by omega, rfl, rfl, rfl, rfl, rfl⟩ ?_
  rintro m' u v2 v3 L G2 ⟨k, o, hm', ho, rfl, rfl, rfl, rfl⟩
  have hrg := majK_range cf k
  rw [ho] at hrg
  by_cases hk16 : k < 16
  · have hst : majK cf (k + 1) = if cf k = 0 ∨ (0 ≤ o.1 ∧ cf k < cf o.1) then o else if 0 ≤ o.1 ∧ cf k = cf o.1 then (o.1, false) else ((k : Int), true) := by rw [majK, ho]
    have hFk := hF (k : Int)
    have hFo := hF o.1
    have hkl := hcle k
    obtain ⟨o1, o2⟩ := o
    dsimp only at *
    repeat' (first | (apply OK_seq) | (apply thenQ_n) | (apply OK_region) | (refine OKx_look 0 rfl rfl rfl TKeyI Try.underlying100 zeroI39 (keyI _ (by omega) (by omega)) (litI _) hFk ?_) | (refine OKx_look 0 rfl rfl rfl TKeyI Try.underlying100 zeroI39 (keyI _ (by omega) (by omega)) (litI _) hFo ?_) | (apply OKx_nilK) | (apply OK_block) | (apply blockQ_n) | (apply blockQ_s) | (apply thenQ_e) | (apply blockQ_e; exact rfl) | (apply thenQ_r) | (apply blockQ_r) | (apply OK_condT; exact rfl) | (apply OK_condF; exact rfl) | (apply OK_skip) | (apply OK_exit) | (apply OK_ret) | (apply OKx_move; ((conv => lhs; whnf) <;> exact rfl)) | (apply OKx_assign; ((conv => lhs; whnf) <;> exact rfl)) | (apply OKx_ldB; exact rfl; (first | exact at0 | exact at1 | exact at2 | exact at3 | exact at4 | exact at5 | exact at6 | exact at7); exact rfl) | (apply OKx_ldR; ((conv => lhs; whnf) <;> exact rfl); (with_reducible assumption)) | (apply OKx_len; exact rfl) | (apply OKx_lenR; ((conv => lhs; whnf) <;> exact rfl); (with_reducible assumption)) | (apply OKx_lenR2; ((conv => lhs; whnf) <;> exact rfl); (with_reducible assumption)) | (apply OKx_lenO; ((conv => lhs; whnf) <;> exact rfl); (first | exact at0 | exact at1 | exact at2 | exact at3 | exact at4 | exact at5 | exact at6 | exact at7)) | (apply OKx_lss; exact rfl; exact rfl; all_goals (intro _; try (exfalso; omega))) | (apply OKx_geq; exact rfl; exact rfl; all_goals (intro _; try (exfalso; omega))) | (apply OKx_eql; exact rfl; exact rfl; all_goals (intro _; try (exfalso; omega))) | (apply OKx_neq; exact rfl; exact rfl; all_goals (intro _; try (exfalso; omega))) | (apply OKx_idxO; exact rfl; exact rfl; omega) | (apply OKx_idxR; ((conv => lhs; whnf) <;> exact rfl); (with_reducible assumption); exact rfl; omega; intro _ _) | (apply OKx_idxOz; exact rfl; exact rfl; omega; omega) | (apply OKx_idxRz; ((conv => lhs; whnf) <;> exact rfl); (with_reducible assumption); exact rfl; omega; omega; intro _ _) | (apply OKx_fldO; exact rfl; exact rfl) | (apply OKx_fldR; ((conv => lhs; whnf) <;> exact rfl); (with_reducible assumption); decide; intro _ _) | (apply OKx_inc; exact rfl; exact rfl; omega) | (apply OKx_addN; exact rfl; exact rfl; omega) | (apply OKx_add; exact rfl; exact rfl; omega; omega) | (apply OKx_pickT; exact rfl; ((conv => lhs; whnf) <;> exact rfl)) | (apply OKx_pickF; exact rfl; ((conv => lhs; whnf) <;> exact rfl)) | (apply OKx_guardT; exact rfl; exact rfl) | (apply OKx_guardF; exact rfl; exact rfl) | (apply OKx_guardU; exact rfl; exact rfl) | (apply OKx_notT; exact rfl) | (apply OKx_notF; exact rfl) | (apply OKx_extract; exact rfl; ((conv => lhs; whnf) <;> exact rfl)) | (apply OKx_boxA; exact rfl; intro _) | (apply OKx_ldBA; exact rfl; (first | exact at0 | exact at1 | exact at2 | exact at3 | exact at4 | exact at5 | exact at6 | exact at7); exact rfl) | (apply OKx_ldRA; ((conv => lhs; whnf) <;> exact rfl); (with_reducible assumption)))
    all_goals first
      | rw [if_pos (show cf k = 0 ∨ (0 ≤ o1 ∧ cf k < cf o1) by omega)] at hst
      | rw [if_neg (show ¬ (cf k = 0 ∨ (0 ≤ o1 ∧ cf k < cf o1)) by omega), if_pos (show 0 ≤ o1 ∧ cf k = cf o1 by omega)] at hst
      | rw [if_neg (show ¬ (cf k = 0 ∨ (0 ≤ o1 ∧ cf k < cf o1)) by omega), if_neg (show ¬ (0 ≤ o1 ∧ cf k = cf o1) by omega)] at hst
    all_goals
      refine ⟨by (repeat' (first | refine agree_upd rfl ?_ | exact agree_over | exact agree_refl _ _ | refine agree_over2 rfl ?_)), m' - 1, _, by omega, Ent.refl _ _, ?_⟩
      exact ⟨k + 1, _, by omega, hst, rfl, rfl, rfl, rfl⟩
  · obtain rfl : k = 16 := by omega
    have hoe : mo = o := hO.trans ho
    obtain ⟨o1, o2⟩ := o
    subst hoe
    dsimp only at *
    cases o2
    · repeat' (first | (apply OK_seq) | (apply thenQ_n) | (apply OK_region) | (apply OKx_nilK) | (apply OK_block) | (apply blockQ_n) | (apply blockQ_s) | (apply thenQ_e) | (apply blockQ_e; exact rfl) | (apply thenQ_r) | (apply blockQ_r) | (apply OK_condT; exact rfl) | (apply OK_condF; exact rfl) | (apply OK_skip) | (apply OK_exit) | (apply OK_ret) | (apply OKx_move; ((conv => lhs; whnf) <;> exact rfl)) | (apply OKx_assign; ((conv => lhs; whnf) <;> exact rfl)) | (apply OKx_ldB; exact rfl; (first | exact at0 | exact at1 | exact at2 | exact at3 | exact at4 | exact at5 | exact at6 | exact at7); exact rfl) | (apply OKx_ldR; ((conv => lhs; whnf) <;> exact rfl); (with_reducible assumption)) | (apply OKx_len; exact rfl) | (apply OKx_lenR; ((conv => lhs; whnf) <;> exact rfl); (with_reducible assumption)) | (apply OKx_lenR2; ((conv => lhs; whnf) <;> exact rfl); (with_reducible assumption)) | (apply OKx_lenO; ((conv => lhs; whnf) <;> exact rfl); (first | exact at0 | exact at1 | exact at2 | exact at3 | exact at4 | exact at5 | exact at6 | exact at7)) | (apply OKx_lss; exact rfl; exact rfl; all_goals (intro _; try (exfalso; omega))) | (apply OKx_geq; exact rfl; exact rfl; all_goals (intro _; try (exfalso; omega))) | (apply OKx_eql; exact rfl; exact rfl; all_goals (intro _; try (exfalso; omega))) | (apply OKx_neq; exact rfl; exact rfl; all_goals (intro _; try (exfalso; omega))) | (apply OKx_idxO; exact rfl; exact rfl; omega) | (apply OKx_idxR; ((conv => lhs; whnf) <;> exact rfl); (with_reducible assumption); exact rfl; omega; intro _ _) | (apply OKx_idxOz; exact rfl; exact rfl; omega; omega) | (apply OKx_idxRz; ((conv => lhs; whnf) <;> exact rfl); (with_reducible assumption); exact rfl; omega; omega; intro _ _) | (apply OKx_fldO; exact rfl; exact rfl) | (apply OKx_fldR; ((conv => lhs; whnf) <;> exact rfl); (with_reducible assumption); decide; intro _ _) | (apply OKx_inc; exact rfl; exact rfl; omega) | (apply OKx_addN; exact rfl; exact rfl; omega) | (apply OKx_add; exact rfl; exact rfl; omega; omega) | (apply OKx_pickT; exact rfl; ((conv => lhs; whnf) <;> exact rfl)) | (apply OKx_pickF; exact rfl; ((conv => lhs; whnf) <;> exact rfl)) | (apply OKx_guardT; exact rfl; exact rfl) | (apply OKx_guardF; exact rfl; exact rfl) | (apply OKx_guardU; exact rfl; exact rfl) | (apply OKx_notT; exact rfl) | (apply OKx_notF; exact rfl) | (apply OKx_extract; exact rfl; ((conv => lhs; whnf) <;> exact rfl)) | (apply OKx_boxA; exact rfl; intro _) | (apply OKx_ldBA; exact rfl; (first | exact at0 | exact at1 | exact at2 | exact at3 | exact at4 | exact at5 | exact at6 | exact at7); exact rfl) | (apply OKx_ldRA; ((conv => lhs; whnf) <;> exact rfl); (with_reducible assumption)))
      first | refine bodyQ_r1 (by ((conv => lhs; whnf) <;> exact rfl)) ?_ | refine bodyQ_r2 (by ((conv => lhs; whnf) <;> exact rfl)) (by ((conv => lhs; whnf) <;> exact rfl)) ?_ | refine bodyQ_r3 (by ((conv => lhs; whnf) <;> exact rfl)) (by ((conv => lhs; whnf) <;> exact rfl)) (by ((conv => lhs; whnf) <;> exact rfl)) ?_ | refine bodyQ_r0 ?_ | refine bodyQ_n0 ?_
      exact ⟨_, Ent.nil, by rw [e1, e2, e3, if_pos rfl], rfl⟩
    · repeat' (first | (apply OK_seq) | (apply thenQ_n) | (apply OK_region) | (apply OKx_nilK) | (apply OK_block) | (apply blockQ_n) | (apply blockQ_s) | (apply thenQ_e) | (apply blockQ_e; exact rfl) | (apply thenQ_r) | (apply blockQ_r) | (apply OK_condT; exact rfl) | (apply OK_condF; exact rfl) | (apply OK_skip) | (apply OK_exit) | (apply OK_ret) | (apply OKx_move; ((conv => lhs; whnf) <;> exact rfl)) | (apply OKx_assign; ((conv => lhs; whnf) <;> exact rfl)) | (apply OKx_ldB; exact rfl; (first | exact at0 | exact at1 | exact at2 | exact at3 | exact at4 | exact at5 | exact at6 | exact at7); exact rfl) | (apply OKx_ldR; ((conv => lhs; whnf) <;> exact rfl); (with_reducible assumption)) | (apply OKx_len; exact rfl) | (apply OKx_lenR; ((conv => lhs; whnf) <;> exact rfl); (with_reducible assumption)) | (apply OKx_lenR2; ((conv => lhs; whnf) <;> exact rfl); (with_reducible assumption)) | (apply OKx_lenO; ((conv => lhs; whnf) <;> exact rfl); (first | exact at0 | exact at1 | exact at2 | exact at3 | exact at4 | exact at5 | exact at6 | exact at7)) | (apply OKx_lss; exact rfl; exact rfl; all_goals (intro _; try (exfalso; omega))) | (apply OKx_geq; exact rfl; exact rfl; all_goals (intro _; try (exfalso; omega))) | (apply OKx_eql; exact rfl; exact rfl; all_goals (intro _; try (exfalso; omega))) | (apply OKx_neq; exact rfl; exact rfl; all_goals (intro _; try (exfalso; omega))) | (apply OKx_idxO; exact rfl; exact rfl; omega) | (apply OKx_idxR; ((conv => lhs; whnf) <;> exact rfl); (with_reducible assumption); exact rfl; omega; intro _ _) | (apply OKx_idxOz; exact rfl; exact rfl; omega; omega) | (apply OKx_idxRz; ((conv => lhs; whnf) <;> exact rfl); (with_reducible assumption); exact rfl; omega; omega; intro _ _) | (apply OKx_fldO; exact rfl; exact rfl) | (apply OKx_fldR; ((conv => lhs; whnf) <;> exact rfl); (with_reducible assumption); decide; intro _ _) | (apply OKx_inc; exact rfl; exact rfl; omega) | (apply OKx_addN; exact rfl; exact rfl; omega) | (apply OKx_add; exact rfl; exact rfl; omega; omega) | (apply OKx_pickT; exact rfl; ((conv => lhs; whnf) <;> exact rfl)) | (apply OKx_pickF; exact rfl; ((conv => lhs; whnf) <;> exact rfl)) | (apply OKx_guardT; exact rfl; exact rfl) | (apply OKx_guardF; exact rfl; exact rfl) | (apply OKx_guardU; exact rfl; exact rfl) | (apply OKx_notT; exact rfl) | (apply OKx_notF; exact rfl) | (apply OKx_extract; exact rfl; ((conv => lhs; whnf) <;> exact rfl)) | (apply OKx_boxA; exact rfl; intro _) | (apply OKx_ldBA; exact rfl; (first | exact at0 | exact at1 | exact at2 | exact at3 | exact at4 | exact at5 | exact at6 | exact at7); exact rfl) | (apply OKx_ldRA; ((conv => lhs; whnf) <;> exact rfl); (with_reducible assumption)))
      first | refine bodyQ_r1 (by ((conv => lhs; whnf) <;> exact rfl)) ?_ | refine bodyQ_r2 (by ((conv => lhs; whnf) <;> exact rfl)) (by ((conv => lhs; whnf) <;> exact rfl)) ?_ | refine bodyQ_r3 (by ((conv => lhs; whnf) <;> exact rfl)) (by ((conv => lhs; whnf) <;> exact rfl)) (by ((conv => lhs; whnf) <;> exact rfl)) ?_ | refine bodyQ_r0 ?_ | refine bodyQ_n0 ?_
      exact ⟨_, Ent.nil, by rw [e1, e2, e3, if_neg (by simp)], rfl⟩
end Go.Proofs.Ytmclgfipdgmomaa
namespace Go.Proofs.Ytmclgfipdgmomaa
open Go.RowKit
theorem ext_getDg {α : Type} (a b : List α) (d : α) (hl : a.length = b.length) (h : ∀ j, j < a.length → a.getD j d = b.getD j d) : a = b := by
  refine List.ext_getElem hl fun j h1 h2 => ?_
  have := h j h1
  rwa [getD_lt _ _ _ h1, getD_lt _ _ _ h2] at this
set_option maxRecDepth 100000 in
set_option maxHeartbeats 4000000 in
theorem samI_sat (v u : Value) (xs ys : List Int) (w : World) (h : Ints w v xs) (k : Ints w u ys) : SatV Try.prog 104 [v, u] w (.bool (decide (xs = ys))) := by
  have hv := h.sl
  have hvb := hv.bound
  have hu := k.sl
  have hub := hu.bound
  by_cases hl : xs.length = ys.length
  rotate_left
  · refine SatL.of 26 [4] Try.func104 (by kernel_rfl) (by kernel_rfl) rfl rfl rfl rfl ?_
    repeat' (first | (apply OK_seq) | (apply thenQ_n) | (apply OK_region) | refine OK_quiet (id := 6) (by kernel_rfl) (by kernel_rfl) ?_ | (apply OKx_nilK) | (apply OK_block) | (apply blockQ_n) | (apply blockQ_s) | (apply thenQ_e) | (apply blockQ_e; exact rfl) | (apply thenQ_r) | (apply blockQ_r) | (apply OK_condT; exact rfl) | (apply OK_condF; exact rfl) | (apply OK_skip) | (apply OK_exit) | (apply OK_ret) | (apply OKx_move; ((conv => lhs; whnf) <;> exact rfl)) | (apply OKx_assign; ((conv => lhs; whnf) <;> exact rfl)) | (apply OKx_ldB; exact rfl; (first | exact at0 | exact at1 | exact at2 | exact at3 | exact at4 | exact at5 | exact at6 | exact at7); exact rfl) | (apply OKx_ldR; ((conv => lhs; whnf) <;> exact rfl); (with_reducible assumption)) | (apply OKx_ldI; exact rfl; (first | exact at0 | exact at1 | exact at2 | exact at3 | exact at4 | exact at5 | exact at6 | exact at7); omega) | (apply OKx_len; exact rfl) | (apply OKx_lenR; ((conv => lhs; whnf) <;> exact rfl); (with_reducible assumption)) | (apply OKx_lenR2; ((conv => lhs; whnf) <;> exact rfl); (with_reducible assumption)) | (apply OKx_lenO; ((conv => lhs; whnf) <;> exact rfl); (first | exact at0 | exact at1 | exact at2 | exact at3 | exact at4 | exact at5 | exact at6 | exact at7)) | (apply OKx_lss; exact rfl; exact rfl; all_goals (intro _; try (exfalso; omega))) | (apply OKx_neq; exact rfl; exact rfl; all_goals (intro _; try (exfalso; omega))) | (apply OKx_idxO; exact rfl; exact rfl; omega) | (apply OKx_idxR; ((conv => lhs; whnf) <;> exact rfl); (with_reducible assumption); exact rfl; omega; intro _ _) | (apply OKx_idxOz; exact rfl; exact rfl; omega; omega) | (apply OKx_idxRz; ((conv => lhs; whnf) <;> exact rfl); (with_reducible assumption); exact rfl; omega; omega; intro _ _) | (apply OKx_inc; exact rfl; exact rfl; omega) | (apply OKx_addN; exact rfl; exact rfl; omega) | (apply OKx_add; exact rfl; exact rfl; omega; omega))
    first | refine bodyQ_r1 (by ((conv => lhs; whnf) <;> exact rfl)) ?_ | refine bodyQ_r2 (by ((conv => lhs; whnf) <;> exact rfl)) (by ((conv => lhs; whnf) <;> exact rfl)) ?_ | refine bodyQ_r3 (by ((conv => lhs; whnf) <;> exact rfl)) (by ((conv => lhs; whnf) <;> exact rfl)) (by ((conv => lhs; whnf) <;> exact rfl)) ?_ | refine bodyQ_r0 ?_ | refine bodyQ_n0 ?_
    exact ⟨_, Ent.nil, bool_eq (decide_eq_false (fun e => hl (by rw [e]))).symm, rfl⟩
  refine SatL.of 26 [4] Try.func104 (by kernel_rfl) (by kernel_rfl) rfl rfl rfl rfl ?_
  repeat' (first | (apply OK_seq) | (apply thenQ_n) | (apply OK_region) | refine OK_quiet (id := 6) (by kernel_rfl) (by kernel_rfl) ?_ | (apply OKx_nilK) | (apply OK_block) | (apply blockQ_n) | (apply blockQ_s) | (apply thenQ_e) | (apply blockQ_e; exact rfl) | (apply thenQ_r) | (apply blockQ_r) | (apply OK_condT; exact rfl) | (apply OK_condF; exact rfl) | (apply OK_skip) | (apply OK_exit) | (apply OK_ret) | (apply OKx_move; ((conv => lhs; whnf) <;> exact rfl)) | (apply OKx_assign; ((conv => lhs; whnf) <;> exact rfl)) | (apply OKx_ldB; exact rfl; (first | exact at0 | exact at1 | exact at2 | exact at3 | exact at4 | exact at5 | exact at6 | exact at7); exact rfl) | (apply OKx_ldR; ((conv => lhs; whnf) <;> exact rfl); (with_reducible assumption)) | (apply OKx_ldI; exact rfl; (first | exact at0 | exact at1 | exact at2 | exact at3 | exact at4 | exact at5 | exact at6 | exact at7); omega) | (apply OKx_len; exact rfl) | (apply OKx_lenR; ((conv => lhs; whnf) <;> exact rfl); (with_reducible assumption)) | (apply OKx_lenR2; ((conv => lhs; whnf) <;> exact rfl); (with_reducible assumption)) | (apply OKx_lenO; ((conv => lhs; whnf) <;> exact rfl); (first | exact at0 | exact at1 | exact at2 | exact at3 | exact at4 | exact at5 | exact at6 | exact at7)) | (apply OKx_lss; exact rfl; exact rfl; all_goals (intro _; try (exfalso; omega))) | (apply OKx_neq; exact rfl; exact rfl; all_goals (intro _; try (exfalso; omega))) | (apply OKx_idxO; exact rfl; exact rfl; omega) | (apply OKx_idxR; ((conv => lhs; whnf) <;> exact rfl); (with_reducible assumption); exact rfl; omega; intro _ _) | (apply OKx_idxOz; exact rfl; exact rfl; omega; omega) | (apply OKx_idxRz; ((conv => lhs; whnf) <;> exact rfl); (with_reducible assumption); exact rfl; omega; omega; intro _ _) | (apply OKx_inc; exact rfl; exact rfl; omega) | (apply OKx_addN; exact rfl; exact rfl; omega) | (apply OKx_add; exact rfl; exact rfl; omega; omega))
  refine OK_loop1 5 [4, 5, 11, 12, 13, 14, 15, 16, 17, 18, 19, 20, 21, 22, 23, 24, 25] (fun m v L => ∃ k : Nat, k + m = xs.length ∧ v = .int .i64 (k : Int) ∧ (∀ j, j < k → xs.getD j 0 = ys.getD j 0) ∧ L = []) xs.length _ (Ent.refl _ _) ⟨0, by omega, rfl, fun j hj => absurd hj (by omega), rfl⟩ ?_
  rintro m v' L G ⟨k, hm, rfl, H, rfl⟩
  repeat' (first | (apply OK_seq) | (apply thenQ_n) | (apply OK_region) | refine OK_quiet (id := 6) (by kernel_rfl) (by kernel_rfl) ?_ | (apply OKx_nilK) | (apply OK_block) | (apply blockQ_n) | (apply blockQ_s) | (apply thenQ_e) | (apply blockQ_e; exact rfl) | (apply thenQ_r) | (apply blockQ_r) | (apply OK_condT; exact rfl) | (apply OK_condF; exact rfl) | (apply OK_skip) | (apply OK_exit) | (apply OK_ret) | (apply OKx_move; ((conv => lhs; whnf) <;> exact rfl)) | (apply OKx_assign; ((conv => lhs; whnf) <;> exact rfl)) | (apply OKx_ldB; exact rfl; (first | exact at0 | exact at1 | exact at2 | exact at3 | exact at4 | exact at5 | exact at6 | exact at7); exact rfl) | (apply OKx_ldR; ((conv => lhs; whnf) <;> exact rfl); (with_reducible assumption)) | (apply OKx_ldI; exact rfl; (first | exact at0 | exact at1 | exact at2 | exact at3 | exact at4 | exact at5 | exact at6 | exact at7); omega) | (apply OKx_len; exact rfl) | (apply OKx_lenR; ((conv => lhs; whnf) <;> exact rfl); (with_reducible assumption)) | (apply OKx_lenR2; ((conv => lhs; whnf) <;> exact rfl); (with_reducible assumption)) | (apply OKx_lenO; ((conv => lhs; whnf) <;> exact rfl); (first | exact at0 | exact at1 | exact at2 | exact at3 | exact at4 | exact at5 | exact at6 | exact at7)) | (apply OKx_lss; exact rfl; exact rfl; all_goals (intro _; try (exfalso; omega))) | (apply OKx_neq; exact rfl; exact rfl; all_goals (intro _; try (exfalso; omega))) | (apply OKx_idxO; exact rfl; exact rfl; omega) | (apply OKx_idxR; ((conv => lhs; whnf) <;> exact rfl); (with_reducible assumption); exact rfl; omega; intro _ _) | (apply OKx_idxOz; exact rfl; exact rfl; omega; omega) | (apply OKx_idxRz; ((conv => lhs; whnf) <;> exact rfl); (with_reducible assumption); exact rfl; omega; omega; intro _ _) | (apply OKx_inc; exact rfl; exact rfl; omega) | (apply OKx_addN; exact rfl; exact rfl; omega) | (apply OKx_add; exact rfl; exact rfl; omega; omega))
  · first | refine bodyQ_r1 (by ((conv => lhs; whnf) <;> exact rfl)) ?_ | refine bodyQ_r2 (by ((conv => lhs; whnf) <;> exact rfl)) (by ((conv => lhs; whnf) <;> exact rfl)) ?_ | refine bodyQ_r3 (by ((conv => lhs; whnf) <;> exact rfl)) (by ((conv => lhs; whnf) <;> exact rfl)) (by ((conv => lhs; whnf) <;> exact rfl)) ?_ | refine bodyQ_r0 ?_ | refine bodyQ_n0 ?_
    exact ⟨_, Ent.nil, bool_eq (decide_eq_false (fun e => by subst e; omega)).symm, rfl⟩
  · refine ⟨by (repeat' (first | refine agree_upd rfl ?_ | exact agree_over | exact agree_refl _ _ | refine agree_over2 rfl ?_)), m - 1, _, by omega, Ent.refl _ _, ?_⟩
    refine ⟨k + 1, by omega, rfl, fun j hj => ?_, rfl⟩
    by_cases hjk : j < k
    · exact H j hjk
    · obtain rfl : j = k := by omega
      omega
  · first | refine bodyQ_r1 (by ((conv => lhs; whnf) <;> exact rfl)) ?_ | refine bodyQ_r2 (by ((conv => lhs; whnf) <;> exact rfl)) (by ((conv => lhs; whnf) <;> exact rfl)) ?_ | refine bodyQ_r3 (by ((conv => lhs; whnf) <;> exact rfl)) (by ((conv => lhs; whnf) <;> exact rfl)) (by ((conv => lhs; whnf) <;> exact rfl)) ?_ | refine bodyQ_r0 ?_ | refine bodyQ_n0 ?_
    exact ⟨_, Ent.nil, bool_eq (decide_eq_true (ext_getDg xs ys 0 hl (fun j hj => H j (by omega)))).symm, rfl⟩
set_option maxRecDepth 100000 in
set_option maxHeartbeats 4000000 in
theorem samT_sat (v u : Value) (xs ys : List (List Int)) (w : World) (h : Tabs w v xs) (k : Tabs w u ys) : SatV Try.prog 76 [v, u] w (.bool (decide (xs = ys))) := by
  obtain ⟨fv, hv, hvr⟩ := h.rows
  have hvb := hv.bound
  obtain ⟨fu, hu, hur⟩ := k.rows
  have hub := hu.bound
  by_cases hl : xs.length = ys.length
  rotate_left
  · refine SatL.of 27 [4] Try.func76 (by kernel_rfl) (by kernel_rfl) rfl rfl rfl rfl ?_
    repeat' (first | (apply OK_seq) | (apply thenQ_n) | (apply OK_region) | refine OK_quiet (id := 6) (by kernel_rfl) (by kernel_rfl) ?_ | (apply OKx_nilK) | (apply OK_block) | (apply blockQ_n) | (apply blockQ_s) | (apply thenQ_e) | (apply blockQ_e; exact rfl) | (apply thenQ_r) | (apply blockQ_r) | (apply OK_condT; exact rfl) | (apply OK_condF; exact rfl) | (apply OK_skip) | (apply OK_exit) | (apply OK_ret) | (apply OKx_move; ((conv => lhs; whnf) <;> exact rfl)) | (apply OKx_assign; ((conv => lhs; whnf) <;> exact rfl)) | (apply OKx_ldB; exact rfl; (first | exact at0 | exact at1 | exact at2 | exact at3 | exact at4 | exact at5 | exact at6 | exact at7); exact rfl) | (apply OKx_ldR; ((conv => lhs; whnf) <;> exact rfl); (with_reducible assumption)) | (apply OKx_len; exact rfl) | (apply OKx_lenR; ((conv => lhs; whnf) <;> exact rfl); (with_reducible assumption)) | (apply OKx_lenR2; ((conv => lhs; whnf) <;> exact rfl); (with_reducible assumption)) | (apply OKx_lenO; ((conv => lhs; whnf) <;> exact rfl); (first | exact at0 | exact at1 | exact at2 | exact at3 | exact at4 | exact at5 | exact at6 | exact at7)) | (apply OKx_lss; exact rfl; exact rfl; all_goals (intro _; try (exfalso; omega))) | (apply OKx_neq; exact rfl; exact rfl; all_goals (intro _; try (exfalso; omega))) | (apply OKx_idxO; exact rfl; exact rfl; omega) | (apply OKx_idxR; ((conv => lhs; whnf) <;> exact rfl); (with_reducible assumption); exact rfl; omega; intro _ _) | (apply OKx_idxOz; exact rfl; exact rfl; omega; omega) | (apply OKx_idxRz; ((conv => lhs; whnf) <;> exact rfl); (with_reducible assumption); exact rfl; omega; omega; intro _ _) | (apply OKx_inc; exact rfl; exact rfl; omega) | (apply OKx_addN; exact rfl; exact rfl; omega) | (apply OKx_add; exact rfl; exact rfl; omega; omega) | (apply OKx_notT; exact rfl) | (apply OKx_notF; exact rfl))
    first | refine bodyQ_r1 (by ((conv => lhs; whnf) <;> exact rfl)) ?_ | refine bodyQ_r2 (by ((conv => lhs; whnf) <;> exact rfl)) (by ((conv => lhs; whnf) <;> exact rfl)) ?_ | refine bodyQ_r3 (by ((conv => lhs; whnf) <;> exact rfl)) (by ((conv => lhs; whnf) <;> exact rfl)) (by ((conv => lhs; whnf) <;> exact rfl)) ?_ | refine bodyQ_r0 ?_ | refine bodyQ_n0 ?_
    exact ⟨_, Ent.nil, bool_eq (decide_eq_false (fun e => hl (by rw [e]))).symm, rfl⟩
  refine SatL.of 27 [4] Try.func76 (by kernel_rfl) (by kernel_rfl) rfl rfl rfl rfl ?_
  repeat' (first | (apply OK_seq) | (apply thenQ_n) | (apply OK_region) | refine OK_quiet (id := 6) (by kernel_rfl) (by kernel_rfl) ?_ | (apply OKx_nilK) | (apply OK_block) | (apply blockQ_n) | (apply blockQ_s) | (apply thenQ_e) | (apply blockQ_e; exact rfl) | (apply thenQ_r) | (apply blockQ_r) | (apply OK_condT; exact rfl) | (apply OK_condF; exact rfl) | (apply OK_skip) | (apply OK_exit) | (apply OK_ret) | (apply OKx_move; ((conv => lhs; whnf) <;> exact rfl)) | (apply OKx_assign; ((conv => lhs; whnf) <;> exact rfl)) | (apply OKx_ldB; exact rfl; (first | exact at0 | exact at1 | exact at2 | exact at3 | exact at4 | exact at5 | exact at6 | exact at7); exact rfl) | (apply OKx_ldR; ((conv => lhs; whnf) <;> exact rfl); (with_reducible assumption)) | (apply OKx_len; exact rfl) | (apply OKx_lenR; ((conv => lhs; whnf) <;> exact rfl); (with_reducible assumption)) | (apply OKx_lenR2; ((conv => lhs; whnf) <;> exact rfl); (with_reducible assumption)) | (apply OKx_lenO; ((conv => lhs; whnf) <;> exact rfl); (first | exact at0 | exact at1 | exact at2 | exact at3 | exact at4 | exact at5 | exact at6 | exact at7)) | (apply OKx_lss; exact rfl; exact rfl; all_goals (intro _; try (exfalso; omega))) | (apply OKx_neq; exact rfl; exact rfl; all_goals (intro _; try (exfalso; omega))) | (apply OKx_idxO; exact rfl; exact rfl; omega) | (apply OKx_idxR; ((conv => lhs; whnf) <;> exact rfl); (with_reducible assumption); exact rfl; omega; intro _ _) | (apply OKx_idxOz; exact rfl; exact rfl; omega; omega) | (apply OKx_idxRz; ((conv => lhs; whnf) <;> exact rfl); (with_reducible assumption); exact rfl; omega; omega; intro _ _) | (apply OKx_inc; exact rfl; exact rfl; omega) | (apply OKx_addN; exact rfl; exact rfl; omega) | (apply OKx_add; exact rfl; exact rfl; omega; omega) | (apply OKx_notT; exact rfl) | (apply OKx_notF; exact rfl))
  refine OK_loop1 5 [4, 5, 11, 12, 13, 14, 15, 16, 17, 18, 19, 20, 21, 22, 23, 24, 25, 26] (fun m v L => ∃ k : Nat, k + m = xs.length ∧ v = .int .i64 (k : Int) ∧ (∀ j, j < k → xs.getD j [] = ys.getD j []) ∧ L = []) xs.length _ (Ent.refl _ _) ⟨0, by omega, rfl, fun j hj => absurd hj (by omega), rfl⟩ ?_
  rintro m v' L G ⟨k, hm, rfl, H, rfl⟩
  have hvk := hvr k
  have huk := hur k
  by_cases hk : k < xs.length
  rotate_left
  · repeat' (first | (apply OK_seq) | (apply thenQ_n) | (apply OK_region) | refine OK_quiet (id := 6) (by kernel_rfl) (by kernel_rfl) ?_ | (apply OKx_nilK) | (apply OK_block) | (apply blockQ_n) | (apply blockQ_s) | (apply thenQ_e) | (apply blockQ_e; exact rfl) | (apply thenQ_r) | (apply blockQ_r) | (apply OK_condT; exact rfl) | (apply OK_condF; exact rfl) | (apply OK_skip) | (apply OK_exit) | (apply OK_ret) | (apply OKx_move; ((conv => lhs; whnf) <;> exact rfl)) | (apply OKx_assign; ((conv => lhs; whnf) <;> exact rfl)) | (apply OKx_ldB; exact rfl; (first | exact at0 | exact at1 | exact at2 | exact at3 | exact at4 | exact at5 | exact at6 | exact at7); exact rfl) | (apply OKx_ldR; ((conv => lhs; whnf) <;> exact rfl); (with_reducible assumption)) | (apply OKx_len; exact rfl) | (apply OKx_lenR; ((conv => lhs; whnf) <;> exact rfl); (with_reducible assumption)) | (apply OKx_lenR2; ((conv => lhs; whnf) <;> exact rfl); (with_reducible assumption)) | (apply OKx_lenO; ((conv => lhs; whnf) <;> exact rfl); (first | exact at0 | exact at1 | exact at2 | exact at3 | exact at4 | exact at5 | exact at6 | exact at7)) | (apply OKx_lss; exact rfl; exact rfl; all_goals (intro _; try (exfalso; omega))) | (apply OKx_neq; exact rfl; exact rfl; all_goals (intro _; try (exfalso; omega))) | (apply OKx_idxO; exact rfl; exact rfl; omega) | (apply OKx_idxR; ((conv => lhs; whnf) <;> exact rfl); (with_reducible assumption); exact rfl; omega; intro _ _) | (apply OKx_idxOz; exact rfl; exact rfl; omega; omega) | (apply OKx_idxRz; ((conv => lhs; whnf) <;> exact rfl); (with_reducible assumption); exact rfl; omega; omega; intro _ _) | (apply OKx_inc; exact rfl; exact rfl; omega) | (apply OKx_addN; exact rfl; exact rfl; omega) | (apply OKx_add; exact rfl; exact rfl; omega; omega) | (apply OKx_notT; exact rfl) | (apply OKx_notF; exact rfl))
    first | refine bodyQ_r1 (by ((conv => lhs; whnf) <;> exact rfl)) ?_ | refine bodyQ_r2 (by ((conv => lhs; whnf) <;> exact rfl)) (by ((conv => lhs; whnf) <;> exact rfl)) ?_ | refine bodyQ_r3 (by ((conv => lhs; whnf) <;> exact rfl)) (by ((conv => lhs; whnf) <;> exact rfl)) (by ((conv => lhs; whnf) <;> exact rfl)) ?_ | refine bodyQ_r0 ?_ | refine bodyQ_n0 ?_
    exact ⟨_, Ent.nil, bool_eq (decide_eq_true (ext_getDg xs ys [] hl (fun j hj => H j (by omega)))).symm, rfl⟩
  by_cases he : xs.getD k [] = ys.getD k []
  · repeat' (first | (apply OK_seq) | (apply thenQ_n) | (apply OK_region) | (refine OKx_callV (f := 104) (v := .bool true) rfl rfl rfl (fun w1 hp => by have := samI_sat _ _ _ _ w1 (hvk.below hp.below) (huk.below hp.below); rwa [decide_eq_true he] at this) ?_) | refine OK_quiet (id := 6) (by kernel_rfl) (by kernel_rfl) ?_ | (apply OKx_nilK) | (apply OK_block) | (apply blockQ_n) | (apply blockQ_s) | (apply thenQ_e) | (apply blockQ_e; exact rfl) | (apply thenQ_r) | (apply blockQ_r) | (apply OK_condT; exact rfl) | (apply OK_condF; exact rfl) | (apply OK_skip) | (apply OK_exit) | (apply OK_ret) | (apply OKx_move; ((conv => lhs; whnf) <;> exact rfl)) | (apply OKx_assign; ((conv => lhs; whnf) <;> exact rfl)) | (apply OKx_ldB; exact rfl; (first | exact at0 | exact at1 | exact at2 | exact at3 | exact at4 | exact at5 | exact at6 | exact at7); exact rfl) | (apply OKx_ldR; ((conv => lhs; whnf) <;> exact rfl); (with_reducible assumption)) | (apply OKx_len; exact rfl) | (apply OKx_lenR; ((conv => lhs; whnf) <;> exact rfl); (with_reducible assumption)) | (apply OKx_lenR2; ((conv => lhs; whnf) <;> exact rfl); (with_reducible assumption)) | (apply OKx_lenO; ((conv => lhs; whnf) <;> exact rfl); (first | exact at0 | exact at1 | exact at2 | exact at3 | exact at4 | exact at5 | exact at6 | exact at7)) | (apply OKx_lss; exact rfl; exact rfl; all_goals (intro _; try (exfalso; omega))) | (apply OKx_neq; exact rfl; exact rfl; all_goals (intro _; try (exfalso; omega))) | (apply OKx_idxO; exact rfl; exact rfl; omega) | (apply OKx_idxR; ((conv => lhs; whnf) <;> exact rfl); (with_reducible assumption); exact rfl; omega; intro _ _) | (apply OKx_idxOz; exact rfl; exact rfl; omega; omega) | (apply OKx_idxRz; ((conv => lhs; whnf) <;> exact rfl); (with_reducible assumption); exact rfl; omega; omega; intro _ _) | (apply OKx_inc; exact rfl; exact rfl; omega) | (apply OKx_addN; exact rfl; exact rfl; omega) | (apply OKx_add; exact rfl; exact rfl; omega; omega) | (apply OKx_notT; exact rfl) | (apply OKx_notF; exact rfl))
    refine ⟨by (repeat' (first | refine agree_upd rfl ?_ | exact agree_over | exact agree_refl _ _ | refine agree_over2 rfl ?_)), m - 1, _, by omega, Ent.refl _ _, ?_⟩
    refine ⟨k + 1, by omega, rfl, fun j hj => ?_, rfl⟩
    by_cases hjk : j < k
    · exact H j hjk
    · obtain rfl : j = k := by omega
      exact he
  · repeat' (first | (apply OK_seq) | (apply thenQ_n) | (apply OK_region) | (refine OKx_callV (f := 104) (v := .bool false) rfl rfl rfl (fun w1 hp => by have := samI_sat _ _ _ _ w1 (hvk.below hp.below) (huk.below hp.below); rwa [decide_eq_false he] at this) ?_) | refine OK_quiet (id := 6) (by kernel_rfl) (by kernel_rfl) ?_ | (apply OKx_nilK) | (apply OK_block) | (apply blockQ_n) | (apply blockQ_s) | (apply thenQ_e) | (apply blockQ_e; exact rfl) | (apply thenQ_r) | (apply blockQ_r) | (apply OK_condT; exact rfl) | (apply OK_condF; exact rfl) | (apply OK_skip) | (apply OK_exit) | (apply OK_ret) | (apply OKx_move; ((conv => lhs; whnf) <;> exact rfl)) | (apply OKx_assign; ((conv => lhs; whnf) <;> exact rfl)) | (apply OKx_ldB; exact rfl; (first | exact at0 | exact at1 | exact at2 | exact at3 | exact at4 | exact at5 | exact at6 | exact at7); exact rfl) | (apply OKx_ldR; ((conv => lhs; whnf) <;> exact rfl); (with_reducible assumption)) | (apply OKx_len; exact rfl) | (apply OKx_lenR; ((conv => lhs; whnf) <;> exact rfl); (with_reducible assumption)) | (apply OKx_lenR2; ((conv => lhs; whnf) <;> exact rfl); (with_reducible assumption)) | (apply OKx_lenO; ((conv => lhs; whnf) <;> exact rfl); (first | exact at0 | exact at1 | exact at2 | exact at3 | exact at4 | exact at5 | exact at6 | exact at7)) | (apply OKx_lss; exact rfl; exact rfl; all_goals (intro _; try (exfalso; omega))) | (apply OKx_neq; exact rfl; exact rfl; all_goals (intro _; try (exfalso; omega))) | (apply OKx_idxO; exact rfl; exact rfl; omega) | (apply OKx_idxR; ((conv => lhs; whnf) <;> exact rfl); (with_reducible assumption); exact rfl; omega; intro _ _) | (apply OKx_idxOz; exact rfl; exact rfl; omega; omega) | (apply OKx_idxRz; ((conv => lhs; whnf) <;> exact rfl); (with_reducible assumption); exact rfl; omega; omega; intro _ _) | (apply OKx_inc; exact rfl; exact rfl; omega) | (apply OKx_addN; exact rfl; exact rfl; omega) | (apply OKx_add; exact rfl; exact rfl; omega; omega) | (apply OKx_notT; exact rfl) | (apply OKx_notF; exact rfl))
    first | refine bodyQ_r1 (by ((conv => lhs; whnf) <;> exact rfl)) ?_ | refine bodyQ_r2 (by ((conv => lhs; whnf) <;> exact rfl)) (by ((conv => lhs; whnf) <;> exact rfl)) ?_ | refine bodyQ_r3 (by ((conv => lhs; whnf) <;> exact rfl)) (by ((conv => lhs; whnf) <;> exact rfl)) (by ((conv => lhs; whnf) <;> exact rfl)) ?_ | refine bodyQ_r0 ?_ | refine bodyQ_n0 ?_
    exact ⟨_, Ent.nil, bool_eq (decide_eq_false (fun e => he (by rw [e]))).symm, rfl⟩
set_option maxRecDepth 100000 in
set_option maxHeartbeats 4000000 in
theorem equalS_sat (v u : Value) (xs ys : List ByteArray) (w : World) (h : Strs w v xs) (k : Strs w u ys) : SatV Try.prog 77 [v, u] w (.bool (decide (xs = ys))) := by
  have hv := h.sl
  have hvb := hv.bound
  have hu := k.sl
  have hub := hu.bound
  by_cases hl : xs.length = ys.length
  rotate_left
  · refine SatL.of 26 [4] Try.func77 (by kernel_rfl) (by kernel_rfl) rfl rfl rfl rfl ?_
    repeat' (first | (apply OK_seq) | (apply thenQ_n) | (apply OK_region) | refine OK_quiet (id := 6) (by kernel_rfl) (by kernel_rfl) ?_ | (apply OKx_nilK) | (apply OK_block) | (apply blockQ_n) | (apply blockQ_s) | (apply thenQ_e) | (apply blockQ_e; exact rfl) | (apply thenQ_r) | (apply blockQ_r) | (apply OK_condT; exact rfl) | (apply OK_condF; exact rfl) | (apply OK_skip) | (apply OK_exit) | (apply OK_ret) | (apply OKx_move; ((conv => lhs; whnf) <;> exact rfl)) | (apply OKx_assign; ((conv => lhs; whnf) <;> exact rfl)) | (apply OKx_ldB; exact rfl; (first | exact at0 | exact at1 | exact at2 | exact at3 | exact at4 | exact at5 | exact at6 | exact at7); exact rfl) | (apply OKx_ldR; ((conv => lhs; whnf) <;> exact rfl); (with_reducible assumption)) | (apply OKx_len; exact rfl) | (apply OKx_lenR; ((conv => lhs; whnf) <;> exact rfl); (with_reducible assumption)) | (apply OKx_lenR2; ((conv => lhs; whnf) <;> exact rfl); (with_reducible assumption)) | (apply OKx_lenO; ((conv => lhs; whnf) <;> exact rfl); (first | exact at0 | exact at1 | exact at2 | exact at3 | exact at4 | exact at5 | exact at6 | exact at7)) | (apply OKx_lss; exact rfl; exact rfl; all_goals (intro _; try (exfalso; omega))) | (apply OKx_neq; exact rfl; exact rfl; all_goals (intro _; try (exfalso; omega))) | (apply OKx_sneq; exact rfl; exact rfl; all_goals intro _) | (apply OKx_idxO; exact rfl; exact rfl; omega) | (apply OKx_idxR; ((conv => lhs; whnf) <;> exact rfl); (with_reducible assumption); exact rfl; omega; intro _ _) | (apply OKx_idxOz; exact rfl; exact rfl; omega; omega) | (apply OKx_idxRz; ((conv => lhs; whnf) <;> exact rfl); (with_reducible assumption); exact rfl; omega; omega; intro _ _) | (apply OKx_inc; exact rfl; exact rfl; omega) | (apply OKx_addN; exact rfl; exact rfl; omega) | (apply OKx_add; exact rfl; exact rfl; omega; omega))
    first | refine bodyQ_r1 (by ((conv => lhs; whnf) <;> exact rfl)) ?_ | refine bodyQ_r2 (by ((conv => lhs; whnf) <;> exact rfl)) (by ((conv => lhs; whnf) <;> exact rfl)) ?_ | refine bodyQ_r3 (by ((conv => lhs; whnf) <;> exact rfl)) (by ((conv => lhs; whnf) <;> exact rfl)) (by ((conv => lhs; whnf) <;> exact rfl)) ?_ | refine bodyQ_r0 ?_ | refine bodyQ_n0 ?_
    exact ⟨_, Ent.nil, bool_eq (decide_eq_false (fun e => hl (by rw [e]))).symm, rfl⟩
  refine SatL.of 26 [4] Try.func77 (by kernel_rfl) (by kernel_rfl) rfl rfl rfl rfl ?_
  repeat' (first | (apply OK_seq) | (apply thenQ_n) | (apply OK_region) | refine OK_quiet (id := 6) (by kernel_rfl) (by kernel_rfl) ?_ | (apply OKx_nilK) | (apply OK_block) | (apply blockQ_n) | (apply blockQ_s) | (apply thenQ_e) | (apply blockQ_e; exact rfl) | (apply thenQ_r) | (apply blockQ_r) | (apply OK_condT; exact rfl) | (apply OK_condF; exact rfl) | (apply OK_skip) | (apply OK_exit) | (apply OK_ret) | (apply OKx_move; ((conv => lhs; whnf) <;> exact rfl)) | (apply OKx_assign; ((conv => lhs; whnf) <;> exact rfl)) | (apply OKx_ldB; exact rfl; (first | exact at0 | exact at1 | exact at2 | exact at3 | exact at4 | exact at5 | exact at6 | exact at7); exact rfl) | (apply OKx_ldR; ((conv => lhs; whnf) <;> exact rfl); (with_reducible assumption)) | (apply OKx_len; exact rfl) | (apply OKx_lenR; ((conv => lhs; whnf) <;> exact rfl); (with_reducible assumption)) | (apply OKx_lenR2; ((conv => lhs; whnf) <;> exact rfl); (with_reducible assumption)) | (apply OKx_lenO; ((conv => lhs; whnf) <;> exact rfl); (first | exact at0 | exact at1 | exact at2 | exact at3 | exact at4 | exact at5 | exact at6 | exact at7)) | (apply OKx_lss; exact rfl; exact rfl; all_goals (intro _; try (exfalso; omega))) | (apply OKx_neq; exact rfl; exact rfl; all_goals (intro _; try (exfalso; omega))) | (apply OKx_sneq; exact rfl; exact rfl; all_goals intro _) | (apply OKx_idxO; exact rfl; exact rfl; omega) | (apply OKx_idxR; ((conv => lhs; whnf) <;> exact rfl); (with_reducible assumption); exact rfl; omega; intro _ _) | (apply OKx_idxOz; exact rfl; exact rfl; omega; omega) | (apply OKx_idxRz; ((conv => lhs; whnf) <;> exact rfl); (with_reducible assumption); exact rfl; omega; omega; intro _ _) | (apply OKx_inc; exact rfl; exact rfl; omega) | (apply OKx_addN; exact rfl; exact rfl; omega) | (apply OKx_add; exact rfl; exact rfl; omega; omega))
  refine OK_loop1 13 [4, 5, 13, 14, 15, 16, 17, 18, 19, 20, 21, 22, 23, 24, 25] (fun m v L => ∃ k : Nat, k + m = xs.length ∧ v = .int .i64 (k : Int) ∧ (∀ j, j < k → xs.getD j ByteArray.empty = ys.getD j ByteArray.empty) ∧ L = []) xs.length _ (Ent.refl _ _) ⟨0, by omega, rfl, fun j hj => absurd hj (by omega), rfl⟩ ?_
  rintro m v' L G ⟨k, hm, rfl, H, rfl⟩
  repeat' (first | (apply OK_seq) | (apply thenQ_n) | (apply OK_region) | refine OK_quiet (id := 6) (by kernel_rfl) (by kernel_rfl) ?_ | (apply OKx_nilK) | (apply OK_block) | (apply blockQ_n) | (apply blockQ_s) | (apply thenQ_e) | (apply blockQ_e; exact rfl) | (apply thenQ_r) | (apply blockQ_r) | (apply OK_condT; exact rfl) | (apply OK_condF; exact rfl) | (apply OK_skip) | (apply OK_exit) | (apply OK_ret) | (apply OKx_move; ((conv => lhs; whnf) <;> exact rfl)) | (apply OKx_assign; ((conv => lhs; whnf) <;> exact rfl)) | (apply OKx_ldB; exact rfl; (first | exact at0 | exact at1 | exact at2 | exact at3 | exact at4 | exact at5 | exact at6 | exact at7); exact rfl) | (apply OKx_ldR; ((conv => lhs; whnf) <;> exact rfl); (with_reducible assumption)) | (apply OKx_len; exact rfl) | (apply OKx_lenR; ((conv => lhs; whnf) <;> exact rfl); (with_reducible assumption)) | (apply OKx_lenR2; ((conv => lhs; whnf) <;> exact rfl); (with_reducible assumption)) | (apply OKx_lenO; ((conv => lhs; whnf) <;> exact rfl); (first | exact at0 | exact at1 | exact at2 | exact at3 | exact at4 | exact at5 | exact at6 | exact at7)) | (apply OKx_lss; exact rfl; exact rfl; all_goals (intro _; try (exfalso; omega))) | (apply OKx_neq; exact rfl; exact rfl; all_goals (intro _; try (exfalso; omega))) | (apply OKx_sneq; exact rfl; exact rfl; all_goals intro _) | (apply OKx_idxO; exact rfl; exact rfl; omega) | (apply OKx_idxR; ((conv => lhs; whnf) <;> exact rfl); (with_reducible assumption); exact rfl; omega; intro _ _) | (apply OKx_idxOz; exact rfl; exact rfl; omega; omega) | (apply OKx_idxRz; ((conv => lhs; whnf) <;> exact rfl); (with_reducible assumption); exact rfl; omega; omega; intro _ _) | (apply OKx_inc; exact rfl; exact rfl; omega) | (apply OKx_addN; exact rfl; exact rfl; omega) | (apply OKx_add; exact rfl; exact rfl; omega; omega))
  · first | refine bodyQ_r1 (by ((conv => lhs; whnf) <;> exact rfl)) ?_ | refine bodyQ_r2 (by ((conv => lhs; whnf) <;> exact rfl)) (by ((conv => lhs; whnf) <;> exact rfl)) ?_ | refine bodyQ_r3 (by ((conv => lhs; whnf) <;> exact rfl)) (by ((conv => lhs; whnf) <;> exact rfl)) (by ((conv => lhs; whnf) <;> exact rfl)) ?_ | refine bodyQ_r0 ?_ | refine bodyQ_n0 ?_
    exact ⟨_, Ent.nil, bool_eq (decide_eq_false (fun e => by subst e; simp_all)).symm, rfl⟩
  · refine ⟨by (repeat' (first | refine agree_upd rfl ?_ | exact agree_over | exact agree_refl _ _ | refine agree_over2 rfl ?_)), m - 1, _, by omega, Ent.refl _ _, ?_⟩
    refine ⟨k + 1, by omega, rfl, fun j hj => ?_, rfl⟩
    by_cases hjk : j < k
    · exact H j hjk
    · obtain rfl : j = k := by omega
      assumption
  · first | refine bodyQ_r1 (by ((conv => lhs; whnf) <;> exact rfl)) ?_ | refine bodyQ_r2 (by ((conv => lhs; whnf) <;> exact rfl)) (by ((conv => lhs; whnf) <;> exact rfl)) ?_ | refine bodyQ_r3 (by ((conv => lhs; whnf) <;> exact rfl)) (by ((conv => lhs; whnf) <;> exact rfl)) (by ((conv => lhs; whnf) <;> exact rfl)) ?_ | refine bodyQ_r0 ?_ | refine bodyQ_n0 ?_
    exact ⟨_, Ent.nil, bool_eq (decide_eq_true (ext_getDg xs ys _ hl (fun j hj => H j (by omega)))).symm, rfl⟩
def ex39 : Stem := ⟨[⟨#[120]⟩, ⟨#[65]⟩, ⟨#[66]⟩, ⟨#[121]⟩, ⟨#[67]⟩, ⟨#[68]⟩], [false, true, true, false, true, true], [[], [0], [0], [0], [3], [3]]⟩
def ab39 : Stem := ⟨[⟨#[65]⟩, ⟨#[66]⟩], [true, true], [[], [0]]⟩
theorem ex39R : rtE ex39 [-1, 0, 1, -1, 1, 1] = 0 ∧ posL ex39 [-1, 0, 1, -1, 1, 1] (rooV ex39 [-1, 0, 1, -1, 1, 1]).toNat = [1] := by decide +kernel
theorem ex39M : majV ex39 [-1, 0, 1, -1, 1, 1] = 1 ∧ majB ex39 [-1, 0, 1, -1, 1, 1] = true ∧ majE ex39 [-1, 0, 1, -1, 1, 1] = 0 := by decide +kernel
theorem ex39P : scE ex39 [-1, 0, 0, -1, 1, 1] = 0 ∧ posT ex39 [-1, 0, 0, -1, 1, 1] = [[0], [0], [0], [1], [1], [1]] := by decide +kernel
theorem ab39E : stCheck ab39 = 0 ∧ (elmS ab39).1.names = [⟨#[65]⟩] ∧ (elmS ab39).1.ext.length = 1 ∧ (elmS ab39).1.par.length = 1 ∧ (elmS ab39).2 = [0] := by decide +kernel
set_option maxRecDepth 100000 in
set_option maxHeartbeats 4000000 in
theorem example39_sat (w : World) : Sat Try.prog 75 [] w (fun u L => ∃ a b c, u = .agg #[.slice a 6 6, .slice b 6 6, .slice c 6 6] ∧ ∀ w0 w, Hp w0.heap.size w0 w L → Stm w (.agg #[.slice a 6 6, .slice b 6 6, .slice c 6 6]) ex39) := by
  refine SatL.ofR 10 [.cell 0 26] Try.func75 (by kernel_rfl) (by kernel_rfl) rfl rfl rfl ?_
  repeat' (first | (apply OK_seq) | (apply thenQ_n) | (apply OK_region) | (apply OKx_slit6; (focus ((conv => lhs; whnf) <;> exact rfl)); (focus ((conv => lhs; whnf) <;> exact rfl)); (focus ((conv => lhs; whnf) <;> exact rfl)); (focus ((conv => lhs; whnf) <;> exact rfl)); (focus ((conv => lhs; whnf) <;> exact rfl)); (focus ((conv => lhs; whnf) <;> exact rfl)); (focus exact rfl); (focus exact rfl); (focus exact rfl); (focus exact rfl); (focus exact rfl); (focus exact rfl); intro _) | (apply OKx_stBA (i := 8) (hsz := by kernel_rfl); (focus exact rfl); (focus exact rfl); (focus exact rfl); (focus exact rfl); (focus exact rfl); (focus exact rfl); (focus exact rfl)) | (apply OKx_nilK) | (apply OK_block) | (apply blockQ_n) | (apply blockQ_s) | (apply thenQ_e) | (apply blockQ_e; exact rfl) | (apply thenQ_r) | (apply blockQ_r) | (apply OK_condT; exact rfl) | (apply OK_condF; exact rfl) | (apply OK_skip) | (apply OK_exit) | (apply OK_ret) | (apply OKx_allocA; intro _) | (apply OKx_slit1; ((conv => lhs; whnf) <;> exact rfl); exact rfl; intro _) | (apply OKx_build3; ((conv => lhs; whnf) <;> exact rfl); ((conv => lhs; whnf) <;> exact rfl); ((conv => lhs; whnf) <;> exact rfl); exact rfl; exact rfl; exact rfl) | (apply OKx_stBA; kernel_rfl; exact rfl; exact rfl; exact rfl; (first | exact at0 | exact at1 | exact at2 | exact at3 | exact at4 | exact at5 | exact at6 | exact at7); exact rfl; exact rfl; exact rfl))
  first | refine bodyR_r1 (by first | exact resIs_tmp (by ((conv => lhs; whnf) <;> exact rfl)) | exact resIs_cellA 0 rfl rfl rfl | exact resIs_cellA 1 rfl rfl rfl | exact resIs_cellA 2 rfl rfl rfl | exact resIs_cellA 3 rfl rfl rfl | exact resIs_cellA 4 rfl rfl rfl | exact resIs_cellA 5 rfl rfl rfl | exact resIs_cellA 6 rfl rfl rfl | exact resIs_cellA 7 rfl rfl rfl | exact resIs_cellA 8 rfl rfl rfl | exact resIs_cellA 9 rfl rfl rfl) ?_ | refine bodyR_r2 (by first | exact resIs_tmp (by ((conv => lhs; whnf) <;> exact rfl)) | exact resIs_cellA 0 rfl rfl rfl | exact resIs_cellA 1 rfl rfl rfl | exact resIs_cellA 2 rfl rfl rfl | exact resIs_cellA 3 rfl rfl rfl | exact resIs_cellA 4 rfl rfl rfl | exact resIs_cellA 5 rfl rfl rfl | exact resIs_cellA 6 rfl rfl rfl | exact resIs_cellA 7 rfl rfl rfl | exact resIs_cellA 8 rfl rfl rfl | exact resIs_cellA 9 rfl rfl rfl) (by first | exact resIs_tmp (by ((conv => lhs; whnf) <;> exact rfl)) | exact resIs_cellA 0 rfl rfl rfl | exact resIs_cellA 1 rfl rfl rfl | exact resIs_cellA 2 rfl rfl rfl | exact resIs_cellA 3 rfl rfl rfl | exact resIs_cellA 4 rfl rfl rfl | exact resIs_cellA 5 rfl rfl rfl | exact resIs_cellA 6 rfl rfl rfl | exact resIs_cellA 7 rfl rfl rfl | exact resIs_cellA 8 rfl rfl rfl | exact resIs_cellA 9 rfl rfl rfl) ?_ | refine bodyR_r3 (by first | exact resIs_tmp (by ((conv => lhs; whnf) <;> exact rfl)) | exact resIs_cellA 0 rfl rfl rfl | exact resIs_cellA 1 rfl rfl rfl | exact resIs_cellA 2 rfl rfl rfl | exact resIs_cellA 3 rfl rfl rfl | exact resIs_cellA 4 rfl rfl rfl | exact resIs_cellA 5 rfl rfl rfl | exact resIs_cellA 6 rfl rfl rfl | exact resIs_cellA 7 rfl rfl rfl | exact resIs_cellA 8 rfl rfl rfl | exact resIs_cellA 9 rfl rfl rfl) (by first | exact resIs_tmp (by ((conv => lhs; whnf) <;> exact rfl)) | exact resIs_cellA 0 rfl rfl rfl | exact resIs_cellA 1 rfl rfl rfl | exact resIs_cellA 2 rfl rfl rfl | exact resIs_cellA 3 rfl rfl rfl | exact resIs_cellA 4 rfl rfl rfl | exact resIs_cellA 5 rfl rfl rfl | exact resIs_cellA 6 rfl rfl rfl | exact resIs_cellA 7 rfl rfl rfl | exact resIs_cellA 8 rfl rfl rfl | exact resIs_cellA 9 rfl rfl rfl) (by first | exact resIs_tmp (by ((conv => lhs; whnf) <;> exact rfl)) | exact resIs_cellA 0 rfl rfl rfl | exact resIs_cellA 1 rfl rfl rfl | exact resIs_cellA 2 rfl rfl rfl | exact resIs_cellA 3 rfl rfl rfl | exact resIs_cellA 4 rfl rfl rfl | exact resIs_cellA 5 rfl rfl rfl | exact resIs_cellA 6 rfl rfl rfl | exact resIs_cellA 7 rfl rfl rfl | exact resIs_cellA 8 rfl rfl rfl | exact resIs_cellA 9 rfl rfl rfl) ?_ | refine bodyR_r4 (by first | exact resIs_tmp (by ((conv => lhs; whnf) <;> exact rfl)) | exact resIs_cellA 0 rfl rfl rfl | exact resIs_cellA 1 rfl rfl rfl | exact resIs_cellA 2 rfl rfl rfl | exact resIs_cellA 3 rfl rfl rfl | exact resIs_cellA 4 rfl rfl rfl | exact resIs_cellA 5 rfl rfl rfl | exact resIs_cellA 6 rfl rfl rfl | exact resIs_cellA 7 rfl rfl rfl | exact resIs_cellA 8 rfl rfl rfl | exact resIs_cellA 9 rfl rfl rfl) (by first | exact resIs_tmp (by ((conv => lhs; whnf) <;> exact rfl)) | exact resIs_cellA 0 rfl rfl rfl | exact resIs_cellA 1 rfl rfl rfl | exact resIs_cellA 2 rfl rfl rfl | exact resIs_cellA 3 rfl rfl rfl | exact resIs_cellA 4 rfl rfl rfl | exact resIs_cellA 5 rfl rfl rfl | exact resIs_cellA 6 rfl rfl rfl | exact resIs_cellA 7 rfl rfl rfl | exact resIs_cellA 8 rfl rfl rfl | exact resIs_cellA 9 rfl rfl rfl) (by first | exact resIs_tmp (by ((conv => lhs; whnf) <;> exact rfl)) | exact resIs_cellA 0 rfl rfl rfl | exact resIs_cellA 1 rfl rfl rfl | exact resIs_cellA 2 rfl rfl rfl | exact resIs_cellA 3 rfl rfl rfl | exact resIs_cellA 4 rfl rfl rfl | exact resIs_cellA 5 rfl rfl rfl | exact resIs_cellA 6 rfl rfl rfl | exact resIs_cellA 7 rfl rfl rfl | exact resIs_cellA 8 rfl rfl rfl | exact resIs_cellA 9 rfl rfl rfl) (by first | exact resIs_tmp (by ((conv => lhs; whnf) <;> exact rfl)) | exact resIs_cellA 0 rfl rfl rfl | exact resIs_cellA 1 rfl rfl rfl | exact resIs_cellA 2 rfl rfl rfl | exact resIs_cellA 3 rfl rfl rfl | exact resIs_cellA 4 rfl rfl rfl | exact resIs_cellA 5 rfl rfl rfl | exact resIs_cellA 6 rfl rfl rfl | exact resIs_cellA 7 rfl rfl rfl | exact resIs_cellA 8 rfl rfl rfl | exact resIs_cellA 9 rfl rfl rfl) ?_
  refine ⟨_, Ent.refl _ _, _, _, _, rfl, fun w0 w1 hp => ?_⟩
  exact hp.stm 7 6 0 (ns := ex39.names) (es := ex39.ext) (ps := ex39.par) rfl rfl rfl (by decide) (by decide) (by decide) (by decide) rfl (ltn6 (Ints.nil w1) (hp.ints 5 (xs := [0]) rfl (by decide)) (hp.ints 4 (xs := [0]) rfl (by decide)) (hp.ints 3 (xs := [0]) rfl (by decide)) (hp.ints 2 (xs := [3]) rfl (by decide)) (hp.ints 1 (xs := [3]) rfl (by decide)))
theorem ex39Root (v sv : Value) (w : World) (h : Stm w v ex39) (hs : Ints w sv [-1, 0, 1, -1, 1, 1]) : Sat Try.prog 59 [v, sv] w (fun u L => ∃ v, u = .tuple #[v, .int .i64 0] ∧ ∀ w0 w, Hp w0.heap.size w0 w L → Ints w v [1]) :=
  (Root_sat v sv ex39 _ w w (Below.refl _ _) h hs).mono fun u L hR => by
    rcases hR with ⟨h1, _⟩ | ⟨_, v, h1, h2⟩
    · exact absurd ex39R.1 h1
    · rw [ex39R.2] at h2; exact ⟨v, h1, h2⟩
theorem ex39Maj (v sv : Value) (w : World) (h : Stm w v ex39) (hs : Ints w sv [-1, 0, 1, -1, 1, 1]) : SatV Try.prog 53 [v, sv] w (.tuple #[.int .i64 1, .bool true, .int .i64 0]) := by
  have := Maj_sat v sv ex39 _ w h hs
  rwa [ex39M.1, ex39M.2.1, ex39M.2.2] at this
theorem ex39Poss (v sv : Value) (w : World) (h : Stm w v ex39) (hs : Ints w sv [-1, 0, 0, -1, 1, 1]) : Sat Try.prog 52 [v, sv] w (fun u L => ∃ v, u = .tuple #[v, .int .i64 0] ∧ ∀ w0 w, Hp w0.heap.size w0 w L → Tabs w v [[0], [0], [0], [1], [1], [1]]) :=
  (Poss39_sat v sv ex39 _ w w (Below.refl _ _) h hs).mono fun u L hR => by
    rcases hR with ⟨h1, _⟩ | ⟨_, g, c, vs, Z, h1, h2, h3, rfl⟩
    · exact absurd ex39P.1 h1
    · refine ⟨_, h1, fun w0 w1 hp => ?_⟩
      rw [← ex39P.2]
      exact pos_tabs hp 0 rfl (fun h => h.drop1) (by decide) h3
theorem ab39Eli (v : Value) (w : World) (h : Stm w v ab39) : Sat Try.prog 49 [v] w (fun u L => ∃ a1 a2 a3 b1 b2 b3 c1 c2, u = .tuple #[.agg #[.slice a1 1 a2, .slice a3 1 b1, .slice b2 1 b3], .slice c1 1 c2, .int .i64 0] ∧ ∀ w0 w, Stm w v ab39 → Hp w0.heap.size w0 w L → Strs w (.slice a1 1 a2) [⟨#[65]⟩] ∧ Ints w (.slice c1 1 c2) [0]) :=
  (Eli_sat v ab39 w h).mono fun u L hR => by
    rcases hR with ⟨h1, _⟩ | ⟨_, a1, a2, a3, b1, b2, b3, c1, c2, h1, h2⟩
    · exact absurd ab39E.1 h1
    · obtain ⟨_, q1, q2, q3, q4⟩ := ab39E
      rw [q1, q2, q3, q4] at h1 h2
      refine ⟨a1, a2, a3, b1, b2, b3, c1, c2, h1, fun w0 w1 ha hp => ?_⟩
      obtain ⟨h3, h4⟩ := h2 w0 w1 ha hp
      obtain ⟨_, _, _, he, h5, _⟩ := h3
      cases he
      exact ⟨by rw [q1] at h5; exact h5, h4⟩
section
variable {P : Program} {n : Nat} {w0 : World} {K : Fm → List Res → Prop} {F : Fm} {L Lw : List Res} {ops : Array Oper} {rest : List Oper}
theorem OKx_hide (p : World → Prop) (hp : ∀ w, Hp w0.heap.size w0 w L → p w) (h : ∀ Z, (∀ w, Hp w0.heap.size w0 w Z → p w) → OKx P n w0 (.seq Lw) ops K rest F Z) : OKx P n w0 (.seq Lw) ops K rest F L := h L hp
end
set_option maxRecDepth 100000 in
set_option maxHeartbeats 4000000 in
theorem awake39_sat (w : World) : SatV Try.prog 44 [] w (.bool true) := by
  refine SatL.of 80 [0] Try.func44 (by kernel_rfl) (by kernel_rfl) rfl rfl rfl rfl ?_
  repeat' (first | (apply OK_seq) | (apply thenQ_n) | (apply OK_region) | (apply OKx_slit6; (focus ((conv => lhs; whnf) <;> exact rfl)); (focus ((conv => lhs; whnf) <;> exact rfl)); (focus ((conv => lhs; whnf) <;> exact rfl)); (focus ((conv => lhs; whnf) <;> exact rfl)); (focus ((conv => lhs; whnf) <;> exact rfl)); (focus ((conv => lhs; whnf) <;> exact rfl)); (focus exact rfl); (focus exact rfl); (focus exact rfl); (focus exact rfl); (focus exact rfl); (focus exact rfl); intro _) | (refine OKx_call (f := 75) rfl rfl (fun w hp => example39_sat w) ?_; rintro _ Z1 ⟨a1, b1, c1, rfl, hZ1⟩) | (refine OKx_call (f := 59) rfl rfl (fun w hp => ex39Root _ _ w (hZ1 _ w (hp.sub ((List.sublist_append_left Z1 _).cons _))) (hp.ints 0 (xs := [-1, 0, 1, -1, 1, 1]) rfl (by decide))) ?_; rintro _ ZA ⟨va, rfl, hA⟩; refine OKx_ent (Ent.sub (List.sublist_append_left _ _)) ?_) | (refine OKx_callV (f := 53) (v := .tuple #[.int .i64 1, .bool true, .int .i64 0]) rfl rfl rfl (fun w hp => ex39Maj _ _ w (hZ1 _ w (hp.sub ((List.sublist_append_left Z1 _).cons _))) (hp.ints 0 (xs := [-1, 0, 1, -1, 1, 1]) rfl (by decide))) ?_; refine OKx_ent (Ent.sub ((List.sublist_append_right Z1 _).cons _)) ?_) | (refine OKx_call (f := 52) rfl rfl (fun w hp => ex39Poss _ _ w (hZ1 _ w (hp.sub ((List.sublist_append_left Z1 _).cons _))) (hp.ints 0 (xs := [-1, 0, 0, -1, 1, 1]) rfl (by decide))) ?_; rintro _ ZP ⟨vb, rfl, hP⟩; refine OKx_ent (Ent.sub (List.Sublist.append (List.Sublist.refl ZP) ((List.sublist_append_right Z1 ZA).cons _))) ?_) | (refine OKx_call (f := 49) rfl rfl (fun w hp => ab39Eli _ w (hp.stm 3 2 0 (ns := ab39.names) (es := ab39.ext) (ps := ab39.par) rfl rfl rfl (by decide) (by decide) (by decide) (by decide) rfl (ltn2 (Ints.nil w) (hp.ints 1 (xs := [0]) rfl (by decide))))) ?_; rintro _ ZE ⟨d1, d2, d3, e1, e2, e3, f1, f2, rfl, hE⟩; refine OKx_hide (fun w1 => Strs w1 (.slice d1 1 d2) [⟨#[65]⟩] ∧ Ints w1 (.slice f1 1 f2) [0] ∧ Tabs w1 vb [[0], [0], [0], [1], [1], [1]] ∧ Ints w1 va [1]) (fun w1 hp => ?_) fun ZB hZB => ?_) | (refine OKx_max4 (r := 0) rfl rfl rfl rfl (by decide) ?_) | (refine OKx_callV (f := 25) (v := .bool true) rfl rfl rfl (fun w hp => equalT_sat va _ [1] [1] w (hZB _ (hp.sub (by repeat (first | exact List.Sublist.refl _ | apply List.Sublist.cons)))).2.2.2 (hp.ints 0 rfl (by decide)) rfl) ?_; refine OKx_ent (Ent.sub ((List.Sublist.refl _).cons _)) ?_) | (refine OKx_callV (f := 25) (v := .bool true) rfl rfl rfl (fun w hp => equalT_sat (.slice f1 1 f2) _ [0] [0] w (hZB _ (hp.sub (by repeat (first | exact List.Sublist.refl _ | apply List.Sublist.cons)))).2.1 (hp.ints 0 rfl (by decide)) rfl) ?_; refine OKx_ent (Ent.sub ((List.Sublist.refl _).cons _)) ?_) | (refine OKx_callV (f := 76) (v := .bool true) rfl rfl rfl (fun w hp => by have := samT_sat vb _ [[0], [0], [0], [1], [1], [1]] [[0], [0], [0], [1], [1], [1]] w (hZB _ (hp.sub (by repeat (first | exact List.Sublist.refl _ | apply List.Sublist.cons)))).2.2.1 (hp.tabs 0 (xs := [[0], [0], [0], [1], [1], [1]]) rfl (by decide) rfl (ltn6 (hp.ints 6 (xs := [0]) rfl (by decide)) (hp.ints 5 (xs := [0]) rfl (by decide)) (hp.ints 4 (xs := [0]) rfl (by decide)) (hp.ints 3 (xs := [1]) rfl (by decide)) (hp.ints 2 (xs := [1]) rfl (by decide)) (hp.ints 1 (xs := [1]) rfl (by decide)))); rwa [decide_eq_true rfl] at this) ?_; refine OKx_ent (Ent.sub (((((((List.Sublist.refl _).cons _).cons _).cons _).cons _).cons _).cons _ |>.cons _)) ?_) | (refine OKx_callV (f := 77) (v := .bool true) rfl rfl rfl (fun w hp => by have := equalS_sat (.slice d1 1 d2) _ [⟨#[65]⟩] [⟨#[65]⟩] w (hZB _ (hp.sub (by repeat (first | exact List.Sublist.refl _ | apply List.Sublist.cons)))).1 (hp.strs 0 (xs := [⟨#[65]⟩]) rfl (by decide) (by decide)); rwa [decide_eq_true rfl] at this) ?_; refine OKx_ent (Ent.sub ((List.Sublist.refl _).cons _)) ?_) | (apply OKx_nilK) | (apply OK_block) | (apply blockQ_n) | (apply blockQ_s) | (apply thenQ_e) | (apply blockQ_e; exact rfl) | (apply thenQ_r) | (apply blockQ_r) | (apply OK_condT; exact rfl) | (apply OK_condF; exact rfl) | (apply OK_skip) | (apply OK_exit) | (apply OK_ret) | (apply OKx_move; ((conv => lhs; whnf) <;> exact rfl)) | (apply OKx_assign; ((conv => lhs; whnf) <;> exact rfl)) | (apply OKx_ldB; exact rfl; (first | exact at0 | exact at1 | exact at2 | exact at3 | exact at4 | exact at5 | exact at6 | exact at7); exact rfl) | (apply OKx_ldR; ((conv => lhs; whnf) <;> exact rfl); (with_reducible assumption)) | (apply OKx_eql; exact rfl; exact rfl; all_goals (intro _; try (exfalso; omega))) | (apply OKx_fldO; exact rfl; exact rfl) | (apply OKx_fldR; ((conv => lhs; whnf) <;> exact rfl); (with_reducible assumption); decide; intro _ _) | (apply OKx_max; exact rfl; exact rfl) | (apply OKx_pickT; exact rfl; ((conv => lhs; whnf) <;> exact rfl)) | (apply OKx_pickF; exact rfl; ((conv => lhs; whnf) <;> exact rfl)) | (apply OKx_guardT; exact rfl; exact rfl) | (apply OKx_guardF; exact rfl; exact rfl) | (apply OKx_guardU; exact rfl; exact rfl) | (apply OKx_extract; exact rfl; ((conv => lhs; whnf) <;> exact rfl)) | (apply OKx_allocA; intro _) | (apply OKx_slit1; ((conv => lhs; whnf) <;> exact rfl); exact rfl; intro _) | (apply OKx_slit2; ((conv => lhs; whnf) <;> exact rfl); ((conv => lhs; whnf) <;> exact rfl); exact rfl; exact rfl; intro _) | (apply OKx_build3; ((conv => lhs; whnf) <;> exact rfl); ((conv => lhs; whnf) <;> exact rfl); ((conv => lhs; whnf) <;> exact rfl); exact rfl; exact rfl; exact rfl) | (apply OKx_stBA; kernel_rfl; exact rfl; exact rfl; exact rfl; (first | exact at0 | exact at1 | exact at2 | exact at3 | exact at4 | exact at5 | exact at6 | exact at7); exact rfl; exact rfl; exact rfl))
  · have hq := hp.sub (List.sublist_append_right ZE _)
    have hs := hq.stm 3 2 0 (ns := ab39.names) (es := ab39.ext) (ps := ab39.par) rfl rfl rfl (by decide) (by decide) (by decide) (by decide) rfl (ltn2 (Ints.nil w1) (hq.ints 1 (xs := [0]) rfl (by decide)))
    obtain ⟨h1, h2⟩ := hE _ w1 hs (hp.sub (List.sublist_append_left ZE _))
    have hr := hq.drop1.drop1.drop1.drop1
    exact ⟨h1, h2, hP _ w1 (hr.sub (List.sublist_append_left ZP _)), hA _ w1 (hr.sub (List.sublist_append_right ZP _))⟩
  first | refine bodyQ_r1 (by ((conv => lhs; whnf) <;> exact rfl)) ?_ | refine bodyQ_r2 (by ((conv => lhs; whnf) <;> exact rfl)) (by ((conv => lhs; whnf) <;> exact rfl)) ?_ | refine bodyQ_r3 (by ((conv => lhs; whnf) <;> exact rfl)) (by ((conv => lhs; whnf) <;> exact rfl)) (by ((conv => lhs; whnf) <;> exact rfl)) ?_ | refine bodyQ_r0 ?_ | refine bodyQ_n0 ?_
  exact ⟨_, Ent.nil, rfl, rfl⟩
end Go.Proofs.Ytmclgfipdgmomaa
namespace Go.Proofs.Ytmclgfipdgmomaa
open Go.RowKit
set_option maxRecDepth 100000 in
set_option maxHeartbeats 4000000 in
theorem ArchetypeUndecided_sat (v sv : Value) (s : Stem) (sts : List (List Int)) (w : World) (h : Stm w v s) (hs : Tabs w sv sts) : SatV Try.prog 14 [v, sv] w (.bool true) := by
  have hst := h
  obtain ⟨nv, ev, pv, rfl, _, _, _⟩ := h
  obtain ⟨fv, hsv, hrow⟩ := hs.rows
  have hsb := hsv.bound
  refine SatL.of 64 [4] Try.func14 (by kernel_rfl) (by kernel_rfl) rfl rfl rfl rfl ?_
  repeat' (first | (apply OK_seq) | (apply thenQ_n) | (apply OK_region) | (refine OKx_callB (f := 37) (b := greatPl s sts) rfl rfl rfl (fun w1 hp => GreatPl_sat _ _ s sts w1 (hst.below hp.below) (hs.below hp.below)) ?_ ?_ <;> intro hg) | (refine OKx_callV (f := 44) rfl rfl rfl (fun w1 hp => awake39_sat w1) ?_) | (refine OKx_call (f := 60) rfl rfl (fun w1 hp => Und_sat _ _ s sts w1 (hst.below hp.below) (hs.below hp.below)) ?_; rintro _ _ (⟨h1, rfl, rfl⟩ | ⟨h1, h2, rfl, rfl⟩ | ⟨h1, h2, ⟨k, hk, hkj, hne, rfl⟩, rfl⟩ | ⟨h1, h2, hall, a, c, rfl, rfl⟩) <;> first | rw [List.cons_append, List.nil_append] | rw [List.nil_append]) | (apply OKx_nilK) | (apply OK_block) | (apply blockQ_n) | (apply blockQ_s) | (apply thenQ_e) | (apply blockQ_e; exact rfl) | (apply thenQ_r) | (apply blockQ_r) | (apply OK_condT; exact rfl) | (apply OK_condF; exact rfl) | (apply OK_skip) | (apply OK_exit) | (apply OK_ret) | (apply OKx_move; ((conv => lhs; whnf) <;> exact rfl)) | (apply OKx_assign; ((conv => lhs; whnf) <;> exact rfl)) | (apply OKx_ldB; exact rfl; (first | exact at0 | exact at1 | exact at2 | exact at3 | exact at4 | exact at5 | exact at6 | exact at7); exact rfl) | (apply OKx_ldR; ((conv => lhs; whnf) <;> exact rfl); (with_reducible assumption)) | (apply OKx_len; exact rfl) | (apply OKx_lenR; ((conv => lhs; whnf) <;> exact rfl); (with_reducible assumption)) | (apply OKx_lenR2; ((conv => lhs; whnf) <;> exact rfl); (with_reducible assumption)) | (apply OKx_lenO; ((conv => lhs; whnf) <;> exact rfl); (first | exact at0 | exact at1 | exact at2 | exact at3 | exact at4 | exact at5 | exact at6 | exact at7)) | (apply OKx_lss; exact rfl; exact rfl; all_goals (intro _; try (exfalso; omega))) | (apply OKx_gtr; exact rfl; exact rfl; all_goals (intro _; try (exfalso; omega))) | (apply OKx_eql; exact rfl; exact rfl; all_goals (intro _; try (exfalso; omega))) | (apply OKx_neq; exact rfl; exact rfl; all_goals (intro _; try (exfalso; omega))) | (apply OKx_idxO; exact rfl; exact rfl; omega) | (apply OKx_idxR; ((conv => lhs; whnf) <;> exact rfl); (with_reducible assumption); exact rfl; omega; intro _ _) | (apply OKx_idxOz; exact rfl; exact rfl; omega; omega) | (apply OKx_idxRz; ((conv => lhs; whnf) <;> exact rfl); (with_reducible assumption); exact rfl; omega; omega; intro _ _) | (apply OKx_inc; exact rfl; exact rfl; omega) | (apply OKx_addN; exact rfl; exact rfl; omega) | (apply OKx_add; exact rfl; exact rfl; omega; omega) | (apply OKx_pickT; exact rfl; ((conv => lhs; whnf) <;> exact rfl)) | (apply OKx_pickF; exact rfl; ((conv => lhs; whnf) <;> exact rfl)) | (apply OKx_guardT; exact rfl; exact rfl) | (apply OKx_guardF; exact rfl; exact rfl) | (apply OKx_guardU; exact rfl; exact rfl) | (apply OKx_extract; exact rfl; ((conv => lhs; whnf) <;> exact rfl)) | (apply OKx_boxA; exact rfl; intro _) | (apply OKx_ldBA; exact rfl; (first | exact at0 | exact at1 | exact at2 | exact at3 | exact at4 | exact at5 | exact at6 | exact at7); exact rfl) | (apply OKx_ldRA; ((conv => lhs; whnf) <;> exact rfl); (with_reducible assumption)) | (apply OKx_slit1; ((conv => lhs; whnf) <;> exact rfl); exact rfl; intro _))
  all_goals try (focus ((first | refine bodyQ_r1 (by ((conv => lhs; whnf) <;> exact rfl)) ?_ | refine bodyQ_r2 (by ((conv => lhs; whnf) <;> exact rfl)) (by ((conv => lhs; whnf) <;> exact rfl)) ?_ | refine bodyQ_r3 (by ((conv => lhs; whnf) <;> exact rfl)) (by ((conv => lhs; whnf) <;> exact rfl)) (by ((conv => lhs; whnf) <;> exact rfl)) ?_ | refine bodyQ_r0 ?_ | refine bodyQ_n0 ?_); exact ⟨_, Ent.nil, rfl, rfl⟩))

  rename_i g2 _ _
  refine OK_loop2 7 37 [4, 7, 8, 9, 10, 11, 37, 38, 39, 40, 41, 42, 43, 44, 45, 46, 47, 48, 49, 50, 51, 52, 53, 54, 55, 56, 57] (fun m u v L => ∃ (k : Nat) (oa : Option Addr) (oc : Nat), k + m = sts.length ∧ u = .slice oa (udL s sts k).length oc ∧ v = .int .i64 (k : Int) ∧
    L = [.row 3 1 (.slice oa (udL s sts k).length oc) (udL s sts k).length (ints (udL s sts k)), .row 3 1 (.slice a (udL s sts sts.length).length c) (udL s sts sts.length).length (ints (udL s sts sts.length)), .box 26 g2 [nv, ev, pv]]) sts.length _
    (Ent.mk fun w1 hp => hp.nil 3 1) ⟨0, none, 0, by omega, rfl, rfl, rfl⟩ ?_
  rintro m u v L G ⟨k, oa, oc, hm, rfl, rfl, rfl⟩
  have hul2 := udL_len s sts sts.length
  by_cases hk : k < sts.length
  rotate_left
  · obtain rfl : k = sts.length := by omega
    repeat' (first | (apply OK_seq) | (apply thenQ_n) | (apply OK_region) | (refine OKx_callV (f := 25) (v := .bool true) rfl rfl rfl (fun w1 hp => equalT_sat _ _ _ _ w1 (hp.ints 1 rfl (by omega)) (hp.ints 0 rfl (by omega)) rfl) ?_) | (refine OKx_callV (f := 44) rfl rfl rfl (fun w1 hp => awake39_sat w1) ?_) | (apply OKx_nilK) | (apply OK_block) | (apply blockQ_n) | (apply blockQ_s) | (apply thenQ_e) | (apply blockQ_e; exact rfl) | (apply thenQ_r) | (apply blockQ_r) | (apply OK_condT; exact rfl) | (apply OK_condF; exact rfl) | (apply OK_skip) | (apply OK_exit) | (apply OK_ret) | (apply OKx_move; ((conv => lhs; whnf) <;> exact rfl)) | (apply OKx_assign; ((conv => lhs; whnf) <;> exact rfl)) | (apply OKx_ldB; exact rfl; (first | exact at0 | exact at1 | exact at2 | exact at3 | exact at4 | exact at5 | exact at6 | exact at7); exact rfl) | (apply OKx_ldR; ((conv => lhs; whnf) <;> exact rfl); (with_reducible assumption)) | (apply OKx_len; exact rfl) | (apply OKx_lenR; ((conv => lhs; whnf) <;> exact rfl); (with_reducible assumption)) | (apply OKx_lenR2; ((conv => lhs; whnf) <;> exact rfl); (with_reducible assumption)) | (apply OKx_lenO; ((conv => lhs; whnf) <;> exact rfl); (first | exact at0 | exact at1 | exact at2 | exact at3 | exact at4 | exact at5 | exact at6 | exact at7)) | (apply OKx_lss; exact rfl; exact rfl; all_goals (intro _; try (exfalso; omega))) | (apply OKx_gtr; exact rfl; exact rfl; all_goals (intro _; try (exfalso; omega))) | (apply OKx_eql; exact rfl; exact rfl; all_goals (intro _; try (exfalso; omega))) | (apply OKx_neq; exact rfl; exact rfl; all_goals (intro _; try (exfalso; omega))) | (apply OKx_idxO; exact rfl; exact rfl; omega) | (apply OKx_idxR; ((conv => lhs; whnf) <;> exact rfl); (with_reducible assumption); exact rfl; omega; intro _ _) | (apply OKx_idxOz; exact rfl; exact rfl; omega; omega) | (apply OKx_idxRz; ((conv => lhs; whnf) <;> exact rfl); (with_reducible assumption); exact rfl; omega; omega; intro _ _) | (apply OKx_inc; exact rfl; exact rfl; omega) | (apply OKx_addN; exact rfl; exact rfl; omega) | (apply OKx_add; exact rfl; exact rfl; omega; omega) | (apply OKx_pickT; exact rfl; ((conv => lhs; whnf) <;> exact rfl)) | (apply OKx_pickF; exact rfl; ((conv => lhs; whnf) <;> exact rfl)) | (apply OKx_guardT; exact rfl; exact rfl) | (apply OKx_guardF; exact rfl; exact rfl) | (apply OKx_guardU; exact rfl; exact rfl) | (apply OKx_extract; exact rfl; ((conv => lhs; whnf) <;> exact rfl)) | (apply OKx_boxA; exact rfl; intro _) | (apply OKx_ldBA; exact rfl; (first | exact at0 | exact at1 | exact at2 | exact at3 | exact at4 | exact at5 | exact at6 | exact at7); exact rfl) | (apply OKx_ldRA; ((conv => lhs; whnf) <;> exact rfl); (with_reducible assumption)) | (apply OKx_slit1; ((conv => lhs; whnf) <;> exact rfl); exact rfl; intro _))
    first | refine bodyQ_r1 (by ((conv => lhs; whnf) <;> exact rfl)) ?_ | refine bodyQ_r2 (by ((conv => lhs; whnf) <;> exact rfl)) (by ((conv => lhs; whnf) <;> exact rfl)) ?_ | refine bodyQ_r3 (by ((conv => lhs; whnf) <;> exact rfl)) (by ((conv => lhs; whnf) <;> exact rfl)) (by ((conv => lhs; whnf) <;> exact rfl)) ?_ | refine bodyQ_r0 ?_ | refine bodyQ_n0 ?_
    exact ⟨_, Ent.nil, rfl, rfl⟩
  have hs1 := udL_step s sts k
  have hul := udL_len s sts k
  have hrk := hrow k
  have hrt := hall k hk
  generalize udL s sts sts.length = us2 at *
  generalize hxs : posL s (sts.getD k []) (rooV s (sts.getD k [])).toNat = xs at *
  generalize hus : udL s sts k = us at *
  repeat' (first | (apply OK_seq) | (apply thenQ_n) | (apply OK_region) | (refine OKx_call (f := 59) rfl rfl (fun w1 hp => Root_sat _ _ s _ w w1 hp.below hst hrk) ?_; rintro _ Z (⟨h1, _⟩ | ⟨h1, rv', rfl, hZ⟩) <;> first | exact absurd hrt h1 | skip) | (apply OKx_nilK) | (apply OK_block) | (apply blockQ_n) | (apply blockQ_s) | (apply thenQ_e) | (apply blockQ_e; exact rfl) | (apply thenQ_r) | (apply blockQ_r) | (apply OK_condT; exact rfl) | (apply OK_condF; exact rfl) | (apply OK_skip) | (apply OK_exit) | (apply OK_ret) | (apply OKx_move; ((conv => lhs; whnf) <;> exact rfl)) | (apply OKx_assign; ((conv => lhs; whnf) <;> exact rfl)) | (apply OKx_ldB; exact rfl; (first | exact at0 | exact at1 | exact at2 | exact at3 | exact at4 | exact at5 | exact at6 | exact at7); exact rfl) | (apply OKx_ldR; ((conv => lhs; whnf) <;> exact rfl); (with_reducible assumption)) | (apply OKx_len; exact rfl) | (apply OKx_lenR; ((conv => lhs; whnf) <;> exact rfl); (with_reducible assumption)) | (apply OKx_lenR2; ((conv => lhs; whnf) <;> exact rfl); (with_reducible assumption)) | (apply OKx_lenO; ((conv => lhs; whnf) <;> exact rfl); (first | exact at0 | exact at1 | exact at2 | exact at3 | exact at4 | exact at5 | exact at6 | exact at7)) | (apply OKx_lss; exact rfl; exact rfl; all_goals (intro _; try (exfalso; omega))) | (apply OKx_gtr; exact rfl; exact rfl; all_goals (intro _; try (exfalso; omega))) | (apply OKx_eql; exact rfl; exact rfl; all_goals (intro _; try (exfalso; omega))) | (apply OKx_neq; exact rfl; exact rfl; all_goals (intro _; try (exfalso; omega))) | (apply OKx_idxO; exact rfl; exact rfl; omega) | (apply OKx_idxR; ((conv => lhs; whnf) <;> exact rfl); (with_reducible assumption); exact rfl; omega; intro _ _) | (apply OKx_idxOz; exact rfl; exact rfl; omega; omega) | (apply OKx_idxRz; ((conv => lhs; whnf) <;> exact rfl); (with_reducible assumption); exact rfl; omega; omega; intro _ _) | (apply OKx_inc; exact rfl; exact rfl; omega) | (apply OKx_addN; exact rfl; exact rfl; omega) | (apply OKx_add; exact rfl; exact rfl; omega; omega) | (apply OKx_pickT; exact rfl; ((conv => lhs; whnf) <;> exact rfl)) | (apply OKx_pickF; exact rfl; ((conv => lhs; whnf) <;> exact rfl)) | (apply OKx_guardT; exact rfl; exact rfl) | (apply OKx_guardF; exact rfl; exact rfl) | (apply OKx_guardU; exact rfl; exact rfl) | (apply OKx_extract; exact rfl; ((conv => lhs; whnf) <;> exact rfl)) | (apply OKx_boxA; exact rfl; intro _) | (apply OKx_ldBA; exact rfl; (first | exact at0 | exact at1 | exact at2 | exact at3 | exact at4 | exact at5 | exact at6 | exact at7); exact rfl) | (apply OKx_ldRA; ((conv => lhs; whnf) <;> exact rfl); (with_reducible assumption)) | (apply OKx_slit1; ((conv => lhs; whnf) <;> exact rfl); exact rfl; intro _))
  rw [hxs] at hZ
  refine OKx_world fun w1 hp1 => ?_
  obtain ⟨xa, xc, rfl, _⟩ := Sl.form (C := fun w1 => Hp w.heap.size w w1 Z) (fun w2 hp2 => (hZ _ w2 hp2).sl) w1 (hp1.sub (List.sublist_append_left _ _))
  have hxb := ((hZ _ w1 (hp1.sub (List.sublist_append_left _ _))).sl).bound
  refine OKx_ent (Ent.sub (List.sublist_append_right _ _)) ?_
  by_cases h2 : 1 < xs.length
  · rw [if_pos h2] at hs1
    repeat' (first | (apply OK_seq) | (apply thenQ_n) | (apply OK_region) | (refine OKx_appI 1 0 rfl rfl rfl rfl (by omega) (by omega) ?_; intro g5 c5) | (apply OKx_nilK) | (apply OK_block) | (apply blockQ_n) | (apply blockQ_s) | (apply thenQ_e) | (apply blockQ_e; exact rfl) | (apply thenQ_r) | (apply blockQ_r) | (apply OK_condT; exact rfl) | (apply OK_condF; exact rfl) | (apply OK_skip) | (apply OK_exit) | (apply OK_ret) | (apply OKx_move; ((conv => lhs; whnf) <;> exact rfl)) | (apply OKx_assign; ((conv => lhs; whnf) <;> exact rfl)) | (apply OKx_ldB; exact rfl; (first | exact at0 | exact at1 | exact at2 | exact at3 | exact at4 | exact at5 | exact at6 | exact at7); exact rfl) | (apply OKx_ldR; ((conv => lhs; whnf) <;> exact rfl); (with_reducible assumption)) | (apply OKx_len; exact rfl) | (apply OKx_lenR; ((conv => lhs; whnf) <;> exact rfl); (with_reducible assumption)) | (apply OKx_lenR2; ((conv => lhs; whnf) <;> exact rfl); (with_reducible assumption)) | (apply OKx_lenO; ((conv => lhs; whnf) <;> exact rfl); (first | exact at0 | exact at1 | exact at2 | exact at3 | exact at4 | exact at5 | exact at6 | exact at7)) | (apply OKx_lss; exact rfl; exact rfl; all_goals (intro _; try (exfalso; omega))) | (apply OKx_gtr; exact rfl; exact rfl; all_goals (intro _; try (exfalso; omega))) | (apply OKx_eql; exact rfl; exact rfl; all_goals (intro _; try (exfalso; omega))) | (apply OKx_neq; exact rfl; exact rfl; all_goals (intro _; try (exfalso; omega))) | (apply OKx_idxO; exact rfl; exact rfl; omega) | (apply OKx_idxR; ((conv => lhs; whnf) <;> exact rfl); (with_reducible assumption); exact rfl; omega; intro _ _) | (apply OKx_idxOz; exact rfl; exact rfl; omega; omega) | (apply OKx_idxRz; ((conv => lhs; whnf) <;> exact rfl); (with_reducible assumption); exact rfl; omega; omega; intro _ _) | (apply OKx_inc; exact rfl; exact rfl; omega) | (apply OKx_addN; exact rfl; exact rfl; omega) | (apply OKx_add; exact rfl; exact rfl; omega; omega) | (apply OKx_pickT; exact rfl; ((conv => lhs; whnf) <;> exact rfl)) | (apply OKx_pickF; exact rfl; ((conv => lhs; whnf) <;> exact rfl)) | (apply OKx_guardT; exact rfl; exact rfl) | (apply OKx_guardF; exact rfl; exact rfl) | (apply OKx_guardU; exact rfl; exact rfl) | (apply OKx_extract; exact rfl; ((conv => lhs; whnf) <;> exact rfl)) | (apply OKx_boxA; exact rfl; intro _) | (apply OKx_ldBA; exact rfl; (first | exact at0 | exact at1 | exact at2 | exact at3 | exact at4 | exact at5 | exact at6 | exact at7); exact rfl) | (apply OKx_ldRA; ((conv => lhs; whnf) <;> exact rfl); (with_reducible assumption)) | (apply OKx_slit1; ((conv => lhs; whnf) <;> exact rfl); exact rfl; intro _))
    refine ⟨by (repeat' (first | refine agree_upd rfl ?_ | exact agree_over | exact agree_refl _ _ | refine agree_over2 rfl ?_)), m - 1, _, by omega, Ent.sub ((List.Sublist.refl _).cons _), ?_⟩
    exact ⟨k + 1, _, c5, by omega, by rw [hs1, List.length_append]; rfl, rfl, by rw [hs1, List.length_append]; rfl⟩
  · rw [if_neg h2, List.append_nil] at hs1
    repeat' (first | (apply OK_seq) | (apply thenQ_n) | (apply OK_region) | (apply OKx_nilK) | (apply OK_block) | (apply blockQ_n) | (apply blockQ_s) | (apply thenQ_e) | (apply blockQ_e; exact rfl) | (apply thenQ_r) | (apply blockQ_r) | (apply OK_condT; exact rfl) | (apply OK_condF; exact rfl) | (apply OK_skip) | (apply OK_exit) | (apply OK_ret) | (apply OKx_move; ((conv => lhs; whnf) <;> exact rfl)) | (apply OKx_assign; ((conv => lhs; whnf) <;> exact rfl)) | (apply OKx_ldB; exact rfl; (first | exact at0 | exact at1 | exact at2 | exact at3 | exact at4 | exact at5 | exact at6 | exact at7); exact rfl) | (apply OKx_ldR; ((conv => lhs; whnf) <;> exact rfl); (with_reducible assumption)) | (apply OKx_len; exact rfl) | (apply OKx_lenR; ((conv => lhs; whnf) <;> exact rfl); (with_reducible assumption)) | (apply OKx_lenR2; ((conv => lhs; whnf) <;> exact rfl); (with_reducible assumption)) | (apply OKx_lenO; ((conv => lhs; whnf) <;> exact rfl); (first | exact at0 | exact at1 | exact at2 | exact at3 | exact at4 | exact at5 | exact at6 | exact at7)) | (apply OKx_lss; exact rfl; exact rfl; all_goals (intro _; try (exfalso; omega))) | (apply OKx_gtr; exact rfl; exact rfl; all_goals (intro _; try (exfalso; omega))) | (apply OKx_eql; exact rfl; exact rfl; all_goals (intro _; try (exfalso; omega))) | (apply OKx_neq; exact rfl; exact rfl; all_goals (intro _; try (exfalso; omega))) | (apply OKx_idxO; exact rfl; exact rfl; omega) | (apply OKx_idxR; ((conv => lhs; whnf) <;> exact rfl); (with_reducible assumption); exact rfl; omega; intro _ _) | (apply OKx_idxOz; exact rfl; exact rfl; omega; omega) | (apply OKx_idxRz; ((conv => lhs; whnf) <;> exact rfl); (with_reducible assumption); exact rfl; omega; omega; intro _ _) | (apply OKx_inc; exact rfl; exact rfl; omega) | (apply OKx_addN; exact rfl; exact rfl; omega) | (apply OKx_add; exact rfl; exact rfl; omega; omega) | (apply OKx_pickT; exact rfl; ((conv => lhs; whnf) <;> exact rfl)) | (apply OKx_pickF; exact rfl; ((conv => lhs; whnf) <;> exact rfl)) | (apply OKx_guardT; exact rfl; exact rfl) | (apply OKx_guardF; exact rfl; exact rfl) | (apply OKx_guardU; exact rfl; exact rfl) | (apply OKx_extract; exact rfl; ((conv => lhs; whnf) <;> exact rfl)) | (apply OKx_boxA; exact rfl; intro _) | (apply OKx_ldBA; exact rfl; (first | exact at0 | exact at1 | exact at2 | exact at3 | exact at4 | exact at5 | exact at6 | exact at7); exact rfl) | (apply OKx_ldRA; ((conv => lhs; whnf) <;> exact rfl); (with_reducible assumption)) | (apply OKx_slit1; ((conv => lhs; whnf) <;> exact rfl); exact rfl; intro _))
    refine ⟨by (repeat' (first | refine agree_upd rfl ?_ | exact agree_over | exact agree_refl _ _ | refine agree_over2 rfl ?_)), m - 1, _, by omega, Ent.refl _ _, ?_⟩
    exact ⟨k + 1, oa, oc, by omega, by rw [hs1]; rfl, rfl, by rw [hs1]⟩
end Go.Proofs.Ytmclgfipdgmomaa
namespace Go.Proofs.Ytmclgfipdgmomaa
open Go.RowKit Go.Deep Go.WideShapes
section
variable {H : Type} {enc : TypeId × Value → H} {W : World}
def Light (t : TypeId) (d : DataW H) : Prop := ∀ n ∈ d.weights Try.prog t, n ≤ 140737488355328
theorem light_all {e : TypeId} {els : List (DataW H)} {d : DataW H} (hd : d ∈ els) {n : Nat} (hn : n ∈ d.weights Try.prog e) : n ∈ DataW.weightsAll Try.prog e els := by
  induction els with
  | nil => simp at hd
  | cons a r ih =>
    simp only [DataW.weightsAll, List.mem_append]
    rcases List.mem_cons.1 hd with rfl | h
    · exact .inl hn
    · exact .inr (ih h)
theorem light_slice {t e : TypeId} {els sp : List (DataW H)} (hu : Try.prog.underlying t = some (.slice e)) (h : Light t (.slice els sp)) : (els.length + sp.length) * Try.prog.bytesOf e ≤ 140737488355328 ∧ ∀ d ∈ els, Light e d := by
  unfold Light at *
  simp only [DataW.weights, hu] at h
  exact ⟨h _ (by simp), fun d hd n hn => h n (by simp [light_all hd hn])⟩
theorem light_agg {t : TypeId} {fs : Array Field} {parts : List (DataW H)} (hu : Try.prog.underlying t = some (.struct fs)) (h : Light t (.agg parts)) (j : Nat) {ty : TypeId} {d : DataW H} (h1 : (fs.toList.map (·.type))[j]? = some ty) (h2 : parts[j]? = some d) : Light ty d := by
  intro n hn
  refine h n ?_
  simp only [DataW.weights, hu]
  exact DataW.weights_mem_each h1 h2 n hn
theorem light_each {ts : List TypeId} {ds : List (DataW H)} (h : (DataW.weightsEach Try.prog ts ds).all (· ≤ reachBytes) = true) (j : Nat) {t : TypeId} {d : DataW H} (h1 : ts[j]? = some t) (h2 : ds[j]? = some d) : Light t d := by
  intro n hn
  have : n ≤ reachBytes := by simpa using List.all_eq_true.1 h _ (DataW.weights_mem_each h1 h2 n hn)
  have r : reachBytes = 140737488351232 := rfl
  omega
theorem light_string {t : TypeId} {b : List UInt8} (h : Light t (.lit (.string b) : DataW H)) : b.length ≤ 140737488355328 := h _ (by simp [DataW.weights])
theorem wf_range {z : Int} (h : (Lit.int .i64 z).wf = true) : -9223372036854775808 ≤ z ∧ z ≤ 9223372036854775807 := by
  have e1 : IntKind.i64.min = -9223372036854775808 := rfl
  have e2 : IntKind.i64.max = 9223372036854775807 := rfl
  simp only [Lit.wf, Bool.and_eq_true, decide_eq_true_eq] at h
  omega
theorem open_sl2 {t e : TypeId} {fuel sz : Nat} {v : Value} {x : DataW H × List MemPlace} (ht : Try.prog.underlying t = some (.slice e)) (hc : Try.prog.cellsOf e = sz) (hsz : 0 < sz) (hb : 0 < Try.prog.bytesOf e)
    (h : DataW.trod enc Try.prog W 0 (fun _ => true) true fuel t [v] = some x) (hw : Light t x.1) :
    ∃ (n m : Nat) (C : Nat → List Value) (D : Nat → DataW H) (Q : Nat → List MemPlace), Sl2 W v sz n (fun j c => (C j).getD c undef) ∧ (∀ a k c, v = .slice a k c → k ≤ c) ∧
      ∀ i, i < n → (C i).length = sz ∧ DataW.trod enc Try.prog W 0 (fun _ => true) true m e (C i) = some (D i, Q i) ∧ Light e (D i) := by
  rcases open_slice ht h with ⟨h1, h2⟩ | ⟨a, len, cap, m, n, D, Q, h1, _, hl, hm, hmm, rfl, hx⟩
  · simp only [List.cons.injEq, and_true] at h1
    subst h1; subst h2
    refine ⟨0, 0, fun _ => [], fun _ => .nil, fun _ => [], ⟨by omega, none, 0, rfl, .inl rfl⟩, ?_, fun i hi => absurd hi (by omega)⟩
    intro a k c e
    cases e; exact Nat.le_refl _
  · simp only [List.cons.injEq, and_true] at h1
    subst h1
    simp only [if_true] at hmm
    subst hmm
    obtain ⟨hw1, hw2⟩ := light_slice ht hw
    rw [hc] at hx
    have hx' : ∀ i, i < len → ∃ cs', W.cells? 0 (a.add (i * sz)) sz = some cs' ∧ DataW.trod enc Try.prog W 0 (fun _ => true) true n e cs' = some (D i, Q i) := fun i hi => hx i (by omega)
    obtain ⟨C, hC⟩ := choose_lt (α := List Value) hx'
    have hlen : len ≤ 140737488355328 := by
      have : len * 1 ≤ len * Try.prog.bytesOf e := Nat.mul_le_mul_left _ hb
      simp only [List.length_map, List.length_range] at hw1
      have h3 : len * Try.prog.bytesOf e ≤ (len + (m - len)) * Try.prog.bytesOf e := Nat.mul_le_mul_right _ (by omega)
      omega
    refine ⟨len, n, C, D, Q, ⟨hlen, some a, m, rfl, ?_⟩, ?_, fun i hi => ?_⟩
    · by_cases h0 : len = 0
      · exact .inl h0
      right
      obtain ⟨b, off, spot⟩ := a
      have hs : spot = none := by
        obtain ⟨_, h4, h5⟩ := World.cells?_some (hC 0 (by omega)).1
        have h6 := h5 0 hsz
        obtain ⟨u, hu⟩ : ∃ u, (C 0)[0]? = some u := ⟨_, List.getElem?_eq_getElem (by omega)⟩
        rw [hu] at h6
        simpa [Addr.add] using World.cell?_spot h6
      subst hs
      refine ⟨b, off, rfl, fun j hj c hcs => ?_⟩
      obtain ⟨_, h4, h5⟩ := World.cells?_some (hC j hj).1
      have h6 := h5 c hcs
      rw [add_plain, add_plain] at h6
      rw [h6]
      simp [h4, hcs]
    · intro a' k c e
      cases e; exact hl
    · obtain ⟨_, h4, h5⟩ := World.cells?_some (hC i hi).1
      refine ⟨h4, (hC i hi).2, hw2 _ ?_⟩
      exact List.mem_map.2 ⟨i, List.mem_range.2 hi, rfl⟩
theorem Sl2.flat {v : Value} {sz n : Nat} {g : Nat → Nat → Value} (h : Sl2 W v sz n g) (hr : ∀ a k c, v = .slice a k c → k ≤ c) (f : Nat → Value) (hf : ∀ j, j < n → ∀ c, c < sz → f (j * sz + c) = g j c) (hsz : 0 < sz) : Sl W v sz n f := by
  obtain ⟨h1, a, cap, rfl, h2⟩ := h
  refine ⟨h1, ⟨a, cap, rfl, ?_⟩, hr⟩
  rcases h2 with h0 | ⟨b, off, ha, hc⟩
  · exact .inl h0
  refine .inr ⟨b, off, ha, fun j hj => ?_⟩
  have h3 := Nat.div_add_mod j sz
  have h4 := Nat.mod_lt j hsz
  have h5 : j / sz < n := (Nat.div_lt_iff_lt_mul hsz).2 hj
  have h6 := hc (j / sz) h5 (j % sz) h4
  have h7 := hf (j / sz) h5 (j % sz) h4
  have h8 : j / sz * sz + j % sz = j := by rw [Nat.mul_comm]; exact h3
  rw [Nat.add_assoc, h8] at h6
  rw [h8] at h7
  rw [h6, h7]
theorem open_sl {t e : TypeId} {fuel : Nat} {v : Value} {x : DataW H × List MemPlace} (ht : Try.prog.underlying t = some (.slice e)) (hc : Try.prog.cellsOf e = 1) (hb : 0 < Try.prog.bytesOf e)
    (h : DataW.trod enc Try.prog W 0 (fun _ => true) true fuel t [v] = some x) (hw : Light t x.1) :
    ∃ (n m : Nat) (V : Nat → Value) (D : Nat → DataW H) (Q : Nat → List MemPlace), Sl W v 1 n V ∧
      ∀ i, i < n → DataW.trod enc Try.prog W 0 (fun _ => true) true m e [V i] = some (D i, Q i) ∧ Light e (D i) := by
  obtain ⟨n, m, C, D, Q, h1, h2, h3⟩ := open_sl2 ht hc (by decide) hb h hw
  refine ⟨n, m, fun j => (C j).getD 0 undef, D, Q, h1.flat h2 _ (fun j hj c hcs => ?_) (by decide), fun i hi => ?_⟩
  · obtain rfl : c = 0 := by omega
    simp
  · obtain ⟨h4, h5, h6⟩ := h3 i hi
    refine ⟨?_, h6⟩
    match hCi : C i, h4 with
    | [u], _ => rw [hCi] at h5; simpa [hCi] using h5
theorem range_getD {α : Type} (n : Nat) (f : Nat → α) (d : α) (j : Nat) (h : j < n) : ((List.range n).map f).getD j d = f j := by simp [h]
theorem Ints.open {fuel : Nat} {v : Value} {x : DataW H × List MemPlace} (h : DataW.trod enc Try.prog W 0 (fun _ => true) true fuel 27 [v] = some x) (hw : Light 27 x.1) :
    ∃ xs : List Int, Ints W v xs ∧ ∀ i ∈ xs, -9223372036854775808 ≤ i ∧ i ≤ 9223372036854775807 := by
  obtain ⟨n, m, V, D, Q, h1, h2⟩ := open_sl Try.underlying27 (by kernel_rfl) (of_decide_eq_true (by kernel_rfl)) h hw
  obtain ⟨Z, hZ⟩ := choose_lt (α := Int) (p := fun i z => V i = .int .i64 z ∧ -9223372036854775808 ≤ z ∧ z ≤ 9223372036854775807) (fun i hi => by
    obtain ⟨z, h4, _, h5⟩ := DataW.trod_int Try.underlying3 (h2 i hi).1
    refine ⟨z, by simpa using h4, ?_⟩
    have e1 : IntKind.i64.min = -9223372036854775808 := rfl
    have e2 : IntKind.i64.max = 9223372036854775807 := rfl
    simp only [Lit.wf, Bool.and_eq_true, decide_eq_true_eq] at h5
    omega)
  refine ⟨(List.range n).map Z, ?_, ?_⟩
  · unfold Ints
    rw [List.length_map, List.length_range]
    exact h1.congr fun j hj => (hZ j (by omega)).1.trans (by rw [range_getD _ _ _ _ (by omega)])
  · intro i hi
    obtain ⟨j, hj, rfl⟩ := List.mem_map.1 hi
    exact (hZ j (List.mem_range.1 hj)).2
theorem Bools.open {fuel : Nat} {v : Value} {x : DataW H × List MemPlace} (h : DataW.trod enc Try.prog W 0 (fun _ => true) true fuel 23 [v] = some x) (hw : Light 23 x.1) :
    ∃ xs : List Bool, Bools W v xs := by
  obtain ⟨n, m, V, D, Q, h1, h2⟩ := open_sl Try.underlying23 (by kernel_rfl) (of_decide_eq_true (by kernel_rfl)) h hw
  obtain ⟨Z, hZ⟩ := choose_lt (α := Bool) (p := fun i z => V i = .bool z) (fun i hi => by
    obtain ⟨z, h4, _⟩ := DataW.trod_bool Try.underlying4 (h2 i hi).1
    exact ⟨z, by simpa using h4⟩)
  refine ⟨(List.range n).map Z, ?_⟩
  unfold Bools
  rw [List.length_map, List.length_range]
  exact h1.congr fun j hj => (hZ j (by omega)).trans (by rw [range_getD _ _ _ _ (by omega)])
theorem Strs.open {fuel : Nat} {v : Value} {x : DataW H × List MemPlace} (h : DataW.trod enc Try.prog W 0 (fun _ => true) true fuel 22 [v] = some x) (hw : Light 22 x.1) :
    ∃ xs : List ByteArray, Strs W v xs := by
  obtain ⟨n, m, V, D, Q, h1, h2⟩ := open_sl Try.underlying22 (by kernel_rfl) (of_decide_eq_true (by kernel_rfl)) h hw
  obtain ⟨Z, hZ⟩ := choose_lt (α := ByteArray) (p := fun i z => V i = .string z ∧ z.size ≤ 140737488355328) (fun i hi => by
    obtain ⟨h3, h4⟩ := h2 i hi
    obtain ⟨z, h5, h6, _⟩ := DataW.trod_string Try.underlying9 h3
    simp only [Prod.mk.injEq] at h6
    rw [h6.1] at h4
    exact ⟨z, by simpa using h5, by simpa using light_string h4⟩)
  refine ⟨(List.range n).map Z, ?_, ?_⟩
  · rw [List.length_map, List.length_range]
    exact h1.congr fun j hj => (hZ j (by omega)).1.trans (by rw [range_getD _ _ _ _ (by omega)])
  · intro i hi
    obtain ⟨j, hj, rfl⟩ := List.mem_map.1 hi
    exact (hZ j (List.mem_range.1 hj)).2
theorem Tabs.open {fuel : Nat} {v : Value} {x : DataW H × List MemPlace} (h : DataW.trod enc Try.prog W 0 (fun _ => true) true fuel 24 [v] = some x) (hw : Light 24 x.1) :
    ∃ xs : List (List Int), Tabs W v xs ∧ ∀ r ∈ xs, ∀ i ∈ r, -9223372036854775808 ≤ i ∧ i ≤ 9223372036854775807 := by
  obtain ⟨n, m, V, D, Q, h1, h2⟩ := open_sl Try.underlying24 (by kernel_rfl) (of_decide_eq_true (by kernel_rfl)) h hw
  obtain ⟨Z, hZ⟩ := choose_lt (α := List Int) (p := fun i z => Ints W (V i) z ∧ ∀ i ∈ z, -9223372036854775808 ≤ i ∧ i ≤ 9223372036854775807) (fun i hi => Ints.open (h2 i hi).1 (h2 i hi).2)
  refine ⟨(List.range n).map Z, ⟨(List.range n).map V, ?_, by simp, ?_⟩, ?_⟩
  · rw [List.length_map, List.length_range]
    exact h1.congr fun j hj => by rw [range_getD _ _ _ _ (by omega)]
  · intro j hj
    have hj' : j < n := by simpa using hj
    rw [range_getD _ _ _ _ hj']
    simpa using (hZ j hj').1
  · intro i hi
    obtain ⟨j, hj, rfl⟩ := List.mem_map.1 hi
    exact (hZ j (List.mem_range.1 hj)).2
theorem Stm.open {v : Value} {d : DataW H} {ps : List MemPlace} (ho : ∃ cs, v = .agg cs ∧ cs.size = Try.prog.cellsOf 26) (h : DataW.Trod enc Try.prog W 0 (fun _ => true) true 26 v d ps) (hw : Light 26 d) :
    ∃ s, Stm W v s := by
  obtain ⟨⟨cl⟩, rfl, hsz⟩ := ho
  have hC : Try.prog.cellsOf 26 = 3 := by kernel_rfl
  rw [hC] at hsz
  obtain ⟨fuel, h⟩ := h
  match cl, hsz with
  | [nv, ev, pv], _ =>
    obtain ⟨y0, y1, y2, n, e, _, h0, h1, h2⟩ := trod_struct3 Try.underlying26 h
    simp only [Prod.mk.injEq] at e
    obtain ⟨rfl, rfl⟩ := e
    have c1 : Try.prog.cellsOf 22 = 1 := by kernel_rfl
    have c2 : Try.prog.cellsOf 23 = 1 := by kernel_rfl
    have c3 : Try.prog.cellsOf 24 = 1 := by kernel_rfl
    obtain ⟨xs, hx⟩ := Strs.open (v := nv) (by simpa [Value.cells, c1] using h0) (light_agg Try.underlying26 hw 0 rfl rfl)
    obtain ⟨ys, hy⟩ := Bools.open (v := ev) (by simpa [Value.cells, c2] using h1) (light_agg Try.underlying26 hw 1 rfl rfl)
    obtain ⟨zs, hz, _⟩ := Tabs.open (v := pv) (by simpa [Value.cells, c3] using h2) (light_agg Try.underlying26 hw 2 rfl rfl)
    exact ⟨⟨xs, ys, zs⟩, nv, ev, pv, rfl, hx, hy, hz⟩
end
section
variable {H : Type} {enc : TypeId × Value → H} {W : World}
theorem one_cell {v : Value} (ho : ∃ a n c, v = .slice a n c) : v.cells.toList = [v] := by obtain ⟨a, n, c, rfl⟩ := ho; rfl
theorem Ints.openT {v : Value} {d : DataW H} {ps : List MemPlace} (ho : ∃ a n c, v = .slice a n c) (h : DataW.Trod enc Try.prog W 0 (fun _ => true) true 27 v d ps) (hw : Light 27 d) :
    ∃ xs : List Int, Ints W v xs ∧ ∀ i ∈ xs, -9223372036854775808 ≤ i ∧ i ≤ 9223372036854775807 := by
  obtain ⟨fuel, h⟩ := h
  rw [one_cell ho] at h
  exact Ints.open h hw
theorem Tabs.openT {v : Value} {d : DataW H} {ps : List MemPlace} (ho : ∃ a n c, v = .slice a n c) (h : DataW.Trod enc Try.prog W 0 (fun _ => true) true 24 v d ps) (hw : Light 24 d) :
    ∃ xs : List (List Int), Tabs W v xs ∧ ∀ r ∈ xs, ∀ i ∈ r, -9223372036854775808 ≤ i ∧ i ≤ 9223372036854775807 := by
  obtain ⟨fuel, h⟩ := h
  rw [one_cell ho] at h
  exact Tabs.open h hw
theorem u8.openT {v : Value} {d : DataW H} {ps : List MemPlace} (h : ∃ n, v = .int .u8 n ∧ d = .lit (.int .u8 n) ∧ ps = [] ∧ (Lit.int .u8 n).wf = true) : ∃ n : Int, v = .int .u8 n ∧ 0 ≤ n ∧ n ≤ 255 := by
  obtain ⟨n, rfl, _, _, hw⟩ := h
  have e1 : IntKind.u8.min = 0 := rfl
  have e2 : IntKind.u8.max = 255 := rfl
  simp only [Lit.wf, Bool.and_eq_true, decide_eq_true_eq] at hw
  exact ⟨n, rfl, by omega, by omega⟩
theorem int.openT {v : Value} {d : DataW H} {ps : List MemPlace} (h : ∃ n, v = .int .i64 n ∧ d = .lit (.int .i64 n) ∧ ps = [] ∧ (Lit.int .i64 n).wf = true) : ∃ n : Int, v = .int .i64 n ∧ -9223372036854775808 ≤ n ∧ n ≤ 9223372036854775807 := by
  obtain ⟨n, rfl, _, _, hw⟩ := h
  exact ⟨n, rfl, wf_range hw⟩
theorem again_all (hl : laidOutB Try.prog = true) {W' : World} (hb : Below W.heap.size W W') : ∀ {ts : List TypeId} {vs : List Value} {ds : List (DataW H)} {ps : List MemPlace},
    (ts.all fun t => Try.prog.readableRec t && decide (t < Try.prog.types.size)) = true → DataW.TrodAll enc Try.prog W 0 (fun _ => true) true ts vs ds ps → (∀ x ∈ ps, x.block < W.heap.size) →
    DataW.TrodAll enc Try.prog W' 0 (fun b => decide (b < W.heap.size)) true ts vs ds ps := by
  intro ts
  induction ts with
  | nil => intro vs ds ps _ h _; obtain ⟨rfl, rfl, rfl⟩ := Go.ChangeShapes.trodAll_nil h; rfl
  | cons t ts ih =>
    intro vs ds ps ht h hlt
    obtain ⟨v, vs', d, ds', p, q, rfl, rfl, rfl, h1, h2⟩ := Go.ChangeShapes.trodAll_cons h
    simp only [List.all_cons, Bool.and_eq_true, decide_eq_true_eq] at ht
    exact ⟨p, q, Below.trod hl ht.1.1 ht.1.2 h1 hb (fun x hx => hlt x (List.mem_append_left _ hx)), ih (by simpa using ht.2) h2 (fun x hx => hlt x (List.mem_append_right _ hx)), rfl⟩
end
end Go.Proofs.Ytmclgfipdgmomaa
