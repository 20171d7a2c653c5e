/-
  Part 8 of the proof: Ext, Re39, Sn, Lt, Arr. No statement of the seat is proved here.
-/
import Derived.Test.YtmclgfipdgmomaaMHAgreed7
namespace Go.Proofs.Ytmclgfipdgmomaa
open Go.RowKit
set_option maxRecDepth 100000 in
set_option maxHeartbeats 4000000 in
theorem stCheck_sat (v : Value) (s : Stem) (w : World) (h : Stm w v s) : SatV Try.prog 48 [v] w (.int .i64 (stCheck s)) :=
  Sat.lib ⟨_, _, Try.func48, by kernel_rfl, rfl⟩ fun w1 hb => (stCheck_any v s w1 (h.below hb)).mono fun e w' ⟨h1, h2⟩ => ⟨_, [], h1, h2, rfl, rfl⟩
def chkI (s : Stem) (i : Int) : Int := if stCheck s ≠ 0 then 1 else if i < 0 ∨ (s.names.length : Int) ≤ i then 6 else 0
set_option maxRecDepth 100000 in
set_option maxHeartbeats 4000000 in
theorem chk36_sat (v : Value) (s : Stem) (i : Int) (w : World) (h : Stm w v s) : SatV Try.prog 73 [v, .int .i64 i] w (.int .i64 (chkI s i)) := by
  have hst := h
  obtain ⟨nv, ev, pv, rfl, hS, _, hP⟩ := h
  have hnv := hS.sl
  refine SatL.of 19 [4] Try.func73 (by kernel_rfl) (by kernel_rfl) rfl rfl rfl rfl ?_
  repeat' (first | (apply OK_seq) | (apply thenQ_n) | (apply OK_region) | (apply OKx_gc 48; exact rfl; refine OKx_callV (f := 48) rfl rfl rfl (fun w hp => stCheck_sat _ s w (hst.below hp.below)) ?_) | (apply OKx_nilK) | (apply OK_block) | (apply blockQ_n) | (apply blockQ_s) | (apply thenQ_e) | (apply blockQ_e; exact rfl) | (apply thenQ_r) | (apply blockQ_r) | (apply OK_condT; exact rfl) | (apply OK_condF; exact rfl) | (apply OK_skip) | (apply OK_exit) | (apply OK_ret) | (apply OKx_move; ((conv => lhs; whnf) <;> exact rfl)) | (apply OKx_assign; ((conv => lhs; whnf) <;> exact rfl)) | (apply OKx_ldB; exact rfl; (first | exact at0 | exact at1 | exact at2 | exact at3 | exact at4 | exact at5 | exact at6 | exact at7); exact rfl) | (apply OKx_ldR; ((conv => lhs; whnf) <;> exact rfl); (with_reducible assumption)) | (apply OKx_len; exact rfl) | (apply OKx_lenR; ((conv => lhs; whnf) <;> exact rfl); (with_reducible assumption)) | (apply OKx_lenR2; ((conv => lhs; whnf) <;> exact rfl); (with_reducible assumption)) | (apply OKx_lenO; ((conv => lhs; whnf) <;> exact rfl); (first | exact at0 | exact at1 | exact at2 | exact at3 | exact at4 | exact at5 | exact at6 | exact at7)) | (apply OKx_lss; exact rfl; exact rfl; all_goals (intro _; try (exfalso; omega))) | (apply OKx_geq; exact rfl; exact rfl; all_goals (intro _; try (exfalso; omega))) | (apply OKx_neq; exact rfl; exact rfl; all_goals (intro _; try (exfalso; omega))) | (apply OKx_fldO; exact rfl; exact rfl) | (apply OKx_fldR; ((conv => lhs; whnf) <;> exact rfl); (with_reducible assumption); decide; intro _ _) | (apply OKx_pickT; exact rfl; ((conv => lhs; whnf) <;> exact rfl)) | (apply OKx_pickF; exact rfl; ((conv => lhs; whnf) <;> exact rfl)) | (apply OKx_guardT; exact rfl; exact rfl) | (apply OKx_guardF; exact rfl; exact rfl) | (apply OKx_guardU; exact rfl; exact rfl) | (apply OKx_boxA; exact rfl; intro _) | (apply OKx_ldBA; exact rfl; (first | exact at0 | exact at1 | exact at2 | exact at3 | exact at4 | exact at5 | exact at6 | exact at7); exact rfl) | (apply OKx_ldRA; ((conv => lhs; whnf) <;> exact rfl); (with_reducible assumption)))
  all_goals
    first | refine bodyQ_r1 (by ((conv => lhs; whnf) <;> exact rfl)) ?_ | refine bodyQ_r2 (by ((conv => lhs; whnf) <;> exact rfl)) (by ((conv => lhs; whnf) <;> exact rfl)) ?_ | refine bodyQ_r3 (by ((conv => lhs; whnf) <;> exact rfl)) (by ((conv => lhs; whnf) <;> exact rfl)) (by ((conv => lhs; whnf) <;> exact rfl)) ?_ | refine bodyQ_r0 ?_ | refine bodyQ_n0 ?_
    exact ⟨_, Ent.nil, int_eq (by unfold chkI; split <;> (try split) <;> omega), rfl⟩
theorem chkI_zero {s : Stem} {i : Int} (h : chkI s i = 0) : stCheck s = 0 ∧ 0 ≤ i ∧ i < s.names.length := by
  unfold chkI at h
  split at h
  · omega
  · split at h
    · omega
    · omega
theorem firstErr_all (f : Nat → Int) : ∀ n, (∀ k, k < n → f k = 0) → firstErr f n = 0
  | 0, _ => rfl
  | n + 1, h => firstErr_step f n (firstErr_all f n (fun k hk => h k (by omega))) (h n (by omega))
end Go.Proofs.Ytmclgfipdgmomaa
namespace Go.Proofs.Ytmclgfipdgmomaa
open Go.RowKit
def expL (own : List Int) (i : Nat) : List Int → List Int
  | [] => []
  | x :: xs => (if x = (i : Int) then own else [x]) ++ expL own i xs
theorem expL_snoc (own : List Int) (i : Nat) (x : Int) : ∀ xs, expL own i (xs ++ [x]) = expL own i xs ++ if x = (i : Int) then own else [x]
  | [] => by simp [expL]
  | y :: ys => by rw [List.cons_append, expL, expL, expL_snoc own i x ys, List.append_assoc]
theorem expL_step (own : List Int) (i : Nat) (xs : List Int) (j : Nat) (h : j < xs.length) : expL own i (xs.take (j + 1)) = expL own i (xs.take j) ++ if xs.getD j 0 = (i : Int) then own else [xs.getD j 0] := by
  rw [getD_lt _ _ _ h, ← expL_snoc, List.take_append_getElem h]
theorem expL_len (own : List Int) (i : Nat) (ho : own.length ≤ 64) : ∀ xs : List Int, (expL own i xs).length ≤ 64 * xs.length
  | [] => by simp [expL]
  | x :: xs => by
    have := expL_len own i ho xs
    rw [expL, List.length_append, List.length_cons]
    split
    · omega
    · simp only [List.length_singleton]; omega
theorem expL_mem (own : List Int) (i : Nat) (y : Int) : ∀ xs : List Int, y ∈ expL own i xs ↔ (y ∈ xs ∧ y ≠ (i : Int)) ∨ ((i : Int) ∈ xs ∧ y ∈ own)
  | [] => by simp [expL]
  | x :: xs => by
    rw [expL, List.mem_append, expL_mem own i y xs]
    by_cases h : x = (i : Int)
    · subst h
      rw [if_pos rfl]
      simp only [List.mem_cons, true_or, true_and]
      constructor
      · rintro (h | ⟨h1, h2⟩ | ⟨_, h⟩)
        · exact .inr h
        · exact .inl ⟨.inr h1, h2⟩
        · exact .inr h
      · rintro (⟨rfl | h1, h2⟩ | h)
        · exact absurd rfl h2
        · exact .inr (.inl ⟨h1, h2⟩)
        · exact .inl h
    · rw [if_neg h]
      simp only [List.mem_cons, List.not_mem_nil, or_false]
      constructor
      · rintro (rfl | ⟨h1, h2⟩ | ⟨h1, h2⟩)
        · exact .inl ⟨.inl rfl, h⟩
        · exact .inl ⟨.inr h1, h2⟩
        · exact .inr ⟨.inr h1, h2⟩
      · rintro (⟨rfl | h1, h2⟩ | ⟨h1 | h1, h2⟩)
        · exact .inl rfl
        · exact .inr (.inl ⟨h1, h2⟩)
        · exact absurd h1.symm h
        · exact .inr (.inr ⟨h1, h2⟩)
def decI (i : Nat) (x : Int) : Int := if (i : Int) < x then x - 1 else x
def decK (i : Nat) (ys : List Int) (j : Nat) : List Int := (ys.take j).map (decI i) ++ ys.drop j
theorem decK_len (i : Nat) (ys : List Int) (j : Nat) : (decK i ys j).length = ys.length := by
  unfold decK
  rw [List.length_append, List.length_map, List.length_take, List.length_drop]
  omega
theorem decK_zero (i : Nat) (ys : List Int) : decK i ys 0 = ys := by simp [decK]
theorem decK_all (i : Nat) (ys : List Int) : decK i ys ys.length = ys.map (decI i) := by simp [decK]
theorem decK_at (i : Nat) (ys : List Int) (j : Nat) (h : j < ys.length) : (decK i ys j).getD j 0 = ys.getD j 0 := by
  unfold decK
  rw [List.getD_eq_getElem?_getD, List.getElem?_append_right (by simp; omega), List.getElem?_drop, ← List.getD_eq_getElem?_getD]
  congr 1
  simp; omega
theorem decK_step (i : Nat) (ys : List Int) (j : Nat) (h : j < ys.length) : decK i ys (j + 1) = (decK i ys j).set j (decI i (ys.getD j 0)) := by
  have e1 : (ys.take j).map (decI i) ++ ys.drop j = (ys.take j).map (decI i) ++ ys[j] :: ys.drop (j + 1) := by rw [← List.drop_eq_getElem_cons h]
  have hl : ((ys.take j).map (decI i)).length = j := by simp; omega
  unfold decK
  rw [e1, List.set_append_right _ _ (by omega), hl, Nat.sub_self, List.set_cons_zero, getD_lt _ _ _ h, ← List.take_append_getElem h, List.map_append, List.append_assoc]
  rfl
def remC (s : Stem) (i k : Nat) : List Int := Lib.compact (srtL (expL (s.par.getD i []) i (s.par.getD k [])))
def remL (s : Stem) (i k : Nat) : List Int := (remC s i k).map (decI i)
def kpt (i k : Nat) : List Nat := (List.range k).filter (fun j => decide (j ≠ i))
theorem kpt_step (i k : Nat) : kpt i (k + 1) = kpt i k ++ if k = i then [] else [k] := by
  unfold kpt
  rw [List.range_succ, List.filter_append]
  congr 1
  by_cases h : k = i
  · rw [if_pos h, List.filter_cons_of_neg (by simpa using h)]; rfl
  · rw [if_neg h, List.filter_cons_of_pos (by simpa using h)]; rfl
theorem kpt_len (i k : Nat) : (kpt i k).length ≤ k := Nat.le_trans (List.length_filter_le _ _) (by simp)
def remS (s : Stem) (i : Nat) : Stem := ⟨(kpt i s.names.length).map (fun k => s.names.getD k ByteArray.empty), (kpt i s.names.length).map (fun k => s.ext.getD k false), (kpt i s.names.length).map (remL s i)⟩
end Go.Proofs.Ytmclgfipdgmomaa
namespace Go.Proofs.Ytmclgfipdgmomaa
open Go.RowKit
section
variable {P : Program} {n : Nat} {w0 : World} {K : Fm → List Res → Prop} {F : Fm} {L : List Res} {m : Md} {ops : Array Oper} {rest : List Oper} {d : Option Nat} {ty : TypeId} {pos : String} {aft : Array Edge}
theorem OKx_convU0 {src dst : TypeId} {x : Operand} {k : IntKind} (hx : rv n F x = .int k 0) (hs : (P.underlying src).isSome = true) (hd : P.underlying dst = some (.int .u64))
    (kk : OKx P n w0 m ops K rest (updo F d (.int .u64 0)) L) : OKx P n w0 m ops K (⟨d, .convert src dst x, ty, pos, aft, none⟩ :: rest) F L :=
  OKx_still (fun w _ _ _ _ _ => by
    have hk : P.intKind dst = .u64 := by simp [Program.intKind, hd]
    have h := run_convert_int (P := P) (w := w) src dst k 0 hs (by rw [hk]; exact hd)
    have hw : IntKind.u64.wrap 0 = 0 := by decide
    rw [hk, hw] at h
    simp [execOp, hx, h, Result.andThen]) kk
end
set_option maxRecDepth 100000 in
set_option maxHeartbeats 4000000 in
theorem ins0_sat (w : World) : SatV Try.prog 118 [.slice none 0 0, .int .i64 0, .int .i64 0] w (.tuple #[]) := by
  refine SatL.of 49 [] Try.func118 (by kernel_rfl) (by kernel_rfl) rfl rfl rfl rfl ?_
  repeat' (first | (apply OK_seq) | (apply thenQ_n) | (apply OK_region) | (refine OK_rid 4 ?_; refine OK_quiet (id := 4) (by kernel_rfl) (by kernel_rfl) ?_) | (refine OK_rid 6 ?_; refine OK_mix [2, 3, 4] [0, 1, 5, 6, 7, 8, 9, 10, 11, 12, 13, 14] [] [15, 16, 17] [] (id := 6) (by kernel_rfl) (by kernel_rfl) rfl (Ent.nil) (by ((try simp only [pickO, nthO, List.cons_append, List.nil_append]) <;> exact rfl)) (by ((try simp only [pickO, nthO, List.cons_append, List.nil_append]) <;> exact rfl)) (by ((try simp only [pickO]) <;> exact rfl)) (by ((try simp only [pickO, nthO, List.cons_append, List.nil_append]) <;> exact rfl)) ?_) | (apply OKx_nilK) | (apply OK_block) | (apply blockQ_n) | (apply blockQ_s) | (apply thenQ_e) | (apply blockQ_e; exact rfl) | (apply thenQ_r) | (apply blockQ_r) | (apply OK_condT; exact rfl) | (apply OK_condF; exact rfl) | (apply OK_skip) | (apply OK_exit) | (apply OK_ret) | (apply OKx_move; ((conv => lhs; whnf) <;> exact rfl)) | (apply OKx_assign; ((conv => lhs; whnf) <;> exact rfl)) | (apply OKx_ldB; exact rfl; (first | exact at0 | exact at1 | exact at2 | exact at3 | exact at4 | exact at5 | exact at6 | exact at7); exact rfl) | (apply OKx_ldR; ((conv => lhs; whnf) <;> exact rfl); (with_reducible assumption)) | (apply OKx_ldI; exact rfl; (first | exact at0 | exact at1 | exact at2 | exact at3 | exact at4 | exact at5 | exact at6 | exact at7); omega) | (apply OKx_lss; exact rfl; exact rfl; all_goals (intro _; try (exfalso; omega))) | (apply OKx_gtr; exact rfl; exact rfl; all_goals (intro _; try (exfalso; omega))) | (apply OKx_idxO; exact rfl; exact rfl; omega) | (apply OKx_idxR; ((conv => lhs; whnf) <;> exact rfl); (with_reducible assumption); exact rfl; omega; intro _ _) | (apply OKx_idxOz; exact rfl; exact rfl; omega; omega) | (apply OKx_idxRz; ((conv => lhs; whnf) <;> exact rfl); (with_reducible assumption); exact rfl; omega; omega; intro _ _) | (apply OKx_inc; exact rfl; exact rfl; omega) | (apply OKx_addN; exact rfl; exact rfl; omega) | (apply OKx_add; exact rfl; exact rfl; omega; omega) | (apply OKx_dec; exact rfl; exact rfl; omega; omega) | (apply OKx_subN; exact rfl; exact rfl; omega; omega) | (apply OKx_sub; exact rfl; exact rfl; omega; omega) | (apply OKx_pickT; exact rfl; ((conv => lhs; whnf) <;> exact rfl)) | (apply OKx_pickF; exact rfl; ((conv => lhs; whnf) <;> exact rfl)) | (apply OKx_guardT; exact rfl; exact rfl) | (apply OKx_guardF; exact rfl; exact rfl) | (apply OKx_guardU; exact rfl; exact rfl) | (apply OKx_stI; exact rfl; exact rfl; (first | exact at0 | exact at1 | exact at2 | exact at3 | exact at4 | exact at5 | exact at6 | exact at7); omega; exact rfl) | (apply OKx_stB; exact rfl; ((conv => lhs; whnf) <;> exact rfl); exact rfl; exact rfl; (first | exact at0 | exact at1 | exact at2 | exact at3 | exact at4 | exact at5 | exact at6 | exact at7); exact rfl; exact rfl; exact rfl))
  refine OK_loop1 6 [6, 7, 10, 11, 12, 13, 14, 15, 16, 17, 18, 19, 20, 21, 22, 23, 24, 25, 26, 27, 28, 29, 30, 31, 32, 33, 34, 35, 36, 37, 38, 39, 40, 41, 42, 43, 44, 45, 46, 47, 48] (fun m v L => v = .int .i64 1 ∧ L = []) 0 _ (Ent.refl _ _) ⟨rfl, rfl⟩ ?_
  rintro m v L G ⟨rfl, rfl⟩
  repeat' (first | (apply OK_seq) | (apply thenQ_n) | (apply OK_region) | (refine OK_rid 4 ?_; refine OK_quiet (id := 4) (by kernel_rfl) (by kernel_rfl) ?_) | (refine OK_rid 6 ?_; refine OK_mix [2, 3, 4] [0, 1, 5, 6, 7, 8, 9, 10, 11, 12, 13, 14] [] [15, 16, 17] [] (id := 6) (by kernel_rfl) (by kernel_rfl) rfl (Ent.nil) (by ((try simp only [pickO, nthO, List.cons_append, List.nil_append]) <;> exact rfl)) (by ((try simp only [pickO, nthO, List.cons_append, List.nil_append]) <;> exact rfl)) (by ((try simp only [pickO]) <;> exact rfl)) (by ((try simp only [pickO, nthO, List.cons_append, List.nil_append]) <;> exact rfl)) ?_) | (apply OKx_nilK) | (apply OK_block) | (apply blockQ_n) | (apply blockQ_s) | (apply thenQ_e) | (apply blockQ_e; exact rfl) | (apply thenQ_r) | (apply blockQ_r) | (apply OK_condT; exact rfl) | (apply OK_condF; exact rfl) | (apply OK_skip) | (apply OK_exit) | (apply OK_ret) | (apply OKx_move; ((conv => lhs; whnf) <;> exact rfl)) | (apply OKx_assign; ((conv => lhs; whnf) <;> exact rfl)) | (apply OKx_ldB; exact rfl; (first | exact at0 | exact at1 | exact at2 | exact at3 | exact at4 | exact at5 | exact at6 | exact at7); exact rfl) | (apply OKx_ldR; ((conv => lhs; whnf) <;> exact rfl); (with_reducible assumption)) | (apply OKx_ldI; exact rfl; (first | exact at0 | exact at1 | exact at2 | exact at3 | exact at4 | exact at5 | exact at6 | exact at7); omega) | (apply OKx_lss; exact rfl; exact rfl; all_goals (intro _; try (exfalso; omega))) | (apply OKx_gtr; exact rfl; exact rfl; all_goals (intro _; try (exfalso; omega))) | (apply OKx_idxO; exact rfl; exact rfl; omega) | (apply OKx_idxR; ((conv => lhs; whnf) <;> exact rfl); (with_reducible assumption); exact rfl; omega; intro _ _) | (apply OKx_idxOz; exact rfl; exact rfl; omega; omega) | (apply OKx_idxRz; ((conv => lhs; whnf) <;> exact rfl); (with_reducible assumption); exact rfl; omega; omega; intro _ _) | (apply OKx_inc; exact rfl; exact rfl; omega) | (apply OKx_addN; exact rfl; exact rfl; omega) | (apply OKx_add; exact rfl; exact rfl; omega; omega) | (apply OKx_dec; exact rfl; exact rfl; omega; omega) | (apply OKx_subN; exact rfl; exact rfl; omega; omega) | (apply OKx_sub; exact rfl; exact rfl; omega; omega) | (apply OKx_pickT; exact rfl; ((conv => lhs; whnf) <;> exact rfl)) | (apply OKx_pickF; exact rfl; ((conv => lhs; whnf) <;> exact rfl)) | (apply OKx_guardT; exact rfl; exact rfl) | (apply OKx_guardF; exact rfl; exact rfl) | (apply OKx_guardU; exact rfl; exact rfl) | (apply OKx_stI; exact rfl; exact rfl; (first | exact at0 | exact at1 | exact at2 | exact at3 | exact at4 | exact at5 | exact at6 | exact at7); omega; exact rfl) | (apply OKx_stB; exact rfl; ((conv => lhs; whnf) <;> exact rfl); exact rfl; exact rfl; (first | exact at0 | exact at1 | exact at2 | exact at3 | exact at4 | exact at5 | exact at6 | exact at7); exact rfl; exact rfl; exact rfl))
  first | refine bodyQ_r1 (by ((conv => lhs; whnf) <;> exact rfl)) ?_ | refine bodyQ_r2 (by ((conv => lhs; whnf) <;> exact rfl)) (by ((conv => lhs; whnf) <;> exact rfl)) ?_ | refine bodyQ_r3 (by ((conv => lhs; whnf) <;> exact rfl)) (by ((conv => lhs; whnf) <;> exact rfl)) (by ((conv => lhs; whnf) <;> exact rfl)) ?_ | refine bodyQ_r0 ?_ | refine bodyQ_n0 ?_
  exact ⟨_, Ent.refl _ _, rfl, rfl⟩
set_option maxRecDepth 100000 in
set_option maxHeartbeats 4000000 in
theorem bitsLen0_sat (w : World) : SatV Try.prog 103 [.int .u64 0] w (.int .i64 0) :=
  Sat.lib ⟨_, _, Try.func103, by kernel_rfl, rfl⟩ fun w1 _ => (Try.bits_Len 0 w1 (by omega) (by omega)).mono fun e w' ⟨h1, h2⟩ => ⟨_, [], h1, h2 ▸ Hp.refl _, rfl, rfl⟩
set_option maxRecDepth 100000 in
set_option maxHeartbeats 4000000 in
theorem pdq0_sat (w : World) : SatV Try.prog 102 [.slice none 0 0, .int .i64 0, .int .i64 0, .int .i64 0] w (.tuple #[]) := by
  refine SatL.of 134 [] Try.func102 (by kernel_rfl) (by kernel_rfl) rfl rfl rfl rfl ?_
  repeat' (first | (apply OK_seq) | (apply thenQ_n) | (apply OK_region) | (refine OK_rid 17 ?_; refine OK_quiet (id := 17) (by kernel_rfl) (by kernel_rfl) ?_) | (apply OKx_nilK) | (apply OK_block) | (apply blockQ_n) | (apply blockQ_s) | (apply thenQ_e) | (apply blockQ_e; exact rfl) | (apply thenQ_r) | (apply blockQ_r) | (apply OK_condT; exact rfl) | (apply OK_condF; exact rfl) | (apply OK_skip) | (apply OK_exit) | (apply OK_ret) | (apply OKx_move; ((conv => lhs; whnf) <;> exact rfl)) | (apply OKx_assign; ((conv => lhs; whnf) <;> exact rfl)) | (apply OKx_ldB; exact rfl; (first | exact at0 | exact at1 | exact at2 | exact at3 | exact at4 | exact at5 | exact at6 | exact at7); exact rfl) | (apply OKx_ldR; ((conv => lhs; whnf) <;> exact rfl); (with_reducible assumption)) | (apply OKx_ldI; exact rfl; (first | exact at0 | exact at1 | exact at2 | exact at3 | exact at4 | exact at5 | exact at6 | exact at7); omega) | (apply OKx_lss; exact rfl; exact rfl; all_goals (intro _; try (exfalso; omega))) | (apply OKx_leq; exact rfl; exact rfl; all_goals (intro _; try (exfalso; omega))) | (apply OKx_gtr; exact rfl; exact rfl; all_goals (intro _; try (exfalso; omega))) | (apply OKx_geq; exact rfl; exact rfl; all_goals (intro _; try (exfalso; omega))) | (apply OKx_eql; exact rfl; exact rfl; all_goals (intro _; try (exfalso; omega))) | (apply OKx_idxO; exact rfl; exact rfl; omega) | (apply OKx_idxR; ((conv => lhs; whnf) <;> exact rfl); (with_reducible assumption); exact rfl; omega; intro _ _) | (apply OKx_idxOz; exact rfl; exact rfl; omega; omega) | (apply OKx_idxRz; ((conv => lhs; whnf) <;> exact rfl); (with_reducible assumption); exact rfl; omega; omega; intro _ _) | (apply OKx_inc; exact rfl; exact rfl; omega) | (apply OKx_addN; exact rfl; exact rfl; omega) | (apply OKx_add; exact rfl; exact rfl; omega; omega) | (apply OKx_dec; exact rfl; exact rfl; omega; omega) | (apply OKx_subN; exact rfl; exact rfl; omega; omega) | (apply OKx_sub; exact rfl; exact rfl; omega; omega) | (apply OKx_pickT; exact rfl; ((conv => lhs; whnf) <;> exact rfl)) | (apply OKx_pickF; exact rfl; ((conv => lhs; whnf) <;> exact rfl)) | (apply OKx_guardT; exact rfl; exact rfl) | (apply OKx_guardF; exact rfl; exact rfl) | (apply OKx_guardU; exact rfl; exact rfl) | (apply OKx_notT; exact rfl) | (apply OKx_notF; exact rfl) | (apply OKx_extract; exact rfl; ((conv => lhs; whnf) <;> exact rfl)))
  refine OK_loop2 1 2 [1, 2, 3, 8, 9, 10, 11, 12, 13, 14, 15, 16, 17, 18, 19, 20, 21, 22, 23, 24, 25, 26, 27, 28, 29, 30, 31, 32, 33, 34, 35, 36, 37, 38, 39, 40, 41, 42, 43, 44, 45, 46, 47, 48, 49, 50, 51, 52, 53, 54, 55, 56, 57, 58, 59, 60, 61, 62, 63, 64, 65, 66, 67, 68, 69, 70, 71, 72, 73, 74, 75, 76, 77, 78, 79, 80, 81, 82, 83, 84, 85, 86, 87, 88, 89, 90, 91, 92, 93, 94, 95, 96, 97, 98, 99, 100, 101, 102, 103, 104, 105, 106, 107, 108, 109, 110, 111, 112, 113, 114, 115, 116, 117, 118, 119, 120, 121, 122, 123, 124, 125, 126, 127, 128, 129, 130, 131, 132, 133] (fun m v v2 L => v = .int .i64 0 ∧ v2 = .int .i64 0 ∧ L = []) 0 _ (Ent.refl _ _) ⟨rfl, rfl, rfl⟩ ?_
  rintro m v v2 L G ⟨rfl, rfl, rfl⟩
  repeat' (first | (apply OK_seq) | (apply thenQ_n) | (apply OK_region) | (apply OKx_gc 118; exact rfl; refine OKx_callV (f := 118) rfl rfl rfl (fun w1 hp => ins0_sat w1) ?_) | (refine OK_rid 17 ?_; refine OK_quiet (id := 17) (by kernel_rfl) (by kernel_rfl) ?_) | (apply OKx_nilK) | (apply OK_block) | (apply blockQ_n) | (apply blockQ_s) | (apply thenQ_e) | (apply blockQ_e; exact rfl) | (apply thenQ_r) | (apply blockQ_r) | (apply OK_condT; exact rfl) | (apply OK_condF; exact rfl) | (apply OK_skip) | (apply OK_exit) | (apply OK_ret) | (apply OKx_move; ((conv => lhs; whnf) <;> exact rfl)) | (apply OKx_assign; ((conv => lhs; whnf) <;> exact rfl)) | (apply OKx_ldB; exact rfl; (first | exact at0 | exact at1 | exact at2 | exact at3 | exact at4 | exact at5 | exact at6 | exact at7); exact rfl) | (apply OKx_ldR; ((conv => lhs; whnf) <;> exact rfl); (with_reducible assumption)) | (apply OKx_ldI; exact rfl; (first | exact at0 | exact at1 | exact at2 | exact at3 | exact at4 | exact at5 | exact at6 | exact at7); omega) | (apply OKx_lss; exact rfl; exact rfl; all_goals (intro _; try (exfalso; omega))) | (apply OKx_leq; exact rfl; exact rfl; all_goals (intro _; try (exfalso; omega))) | (apply OKx_gtr; exact rfl; exact rfl; all_goals (intro _; try (exfalso; omega))) | (apply OKx_geq; exact rfl; exact rfl; all_goals (intro _; try (exfalso; omega))) | (apply OKx_eql; exact rfl; exact rfl; all_goals (intro _; try (exfalso; omega))) | (apply OKx_idxO; exact rfl; exact rfl; omega) | (apply OKx_idxR; ((conv => lhs; whnf) <;> exact rfl); (with_reducible assumption); exact rfl; omega; intro _ _) | (apply OKx_idxOz; exact rfl; exact rfl; omega; omega) | (apply OKx_idxRz; ((conv => lhs; whnf) <;> exact rfl); (with_reducible assumption); exact rfl; omega; omega; intro _ _) | (apply OKx_inc; exact rfl; exact rfl; omega) | (apply OKx_addN; exact rfl; exact rfl; omega) | (apply OKx_add; exact rfl; exact rfl; omega; omega) | (apply OKx_dec; exact rfl; exact rfl; omega; omega) | (apply OKx_subN; exact rfl; exact rfl; omega; omega) | (apply OKx_sub; exact rfl; exact rfl; omega; omega) | (apply OKx_pickT; exact rfl; ((conv => lhs; whnf) <;> exact rfl)) | (apply OKx_pickF; exact rfl; ((conv => lhs; whnf) <;> exact rfl)) | (apply OKx_guardT; exact rfl; exact rfl) | (apply OKx_guardF; exact rfl; exact rfl) | (apply OKx_guardU; exact rfl; exact rfl) | (apply OKx_notT; exact rfl) | (apply OKx_notF; exact rfl) | (apply OKx_extract; exact rfl; ((conv => lhs; whnf) <;> exact rfl)))
  first | refine bodyQ_r1 (by ((conv => lhs; whnf) <;> exact rfl)) ?_ | refine bodyQ_r2 (by ((conv => lhs; whnf) <;> exact rfl)) (by ((conv => lhs; whnf) <;> exact rfl)) ?_ | refine bodyQ_r3 (by ((conv => lhs; whnf) <;> exact rfl)) (by ((conv => lhs; whnf) <;> exact rfl)) (by ((conv => lhs; whnf) <;> exact rfl)) ?_ | refine bodyQ_r0 ?_ | refine bodyQ_n0 ?_
  exact ⟨_, Ent.refl _ _, rfl, rfl⟩
set_option maxRecDepth 100000 in
set_option maxHeartbeats 4000000 in
theorem sort_nil_sat (w : World) : SatV Try.prog 74 [.slice none 0 0] w (.tuple #[]) := by
  refine SatL.of 11 [] Try.func74 (by kernel_rfl) (by kernel_rfl) rfl rfl rfl rfl ?_
  repeat' (first | (apply OK_seq) | (apply thenQ_n) | (apply OK_region) | (apply OKx_gc 103; exact rfl; refine OKx_callV (f := 103) rfl rfl rfl (fun w1 hp => bitsLen0_sat w1) ?_) | (apply OKx_gc 102; exact rfl; refine OKx_callV (f := 102) rfl rfl rfl (fun w1 hp => pdq0_sat w1) ?_) | (refine OKx_convU0 rfl (by kernel_rfl) (by kernel_rfl) ?_) | (apply OKx_nilK) | (apply OK_block) | (apply blockQ_n) | (apply blockQ_s) | (apply thenQ_e) | (apply blockQ_e; exact rfl) | (apply thenQ_r) | (apply blockQ_r) | (apply OK_condT; exact rfl) | (apply OK_condF; exact rfl) | (apply OK_skip) | (apply OK_exit) | (apply OK_ret) | (apply OKx_move; ((conv => lhs; whnf) <;> exact rfl)) | (apply OKx_assign; ((conv => lhs; whnf) <;> exact rfl)) | (apply OKx_len; exact rfl) | (apply OKx_lenR; ((conv => lhs; whnf) <;> exact rfl); (with_reducible assumption)) | (apply OKx_lenR2; ((conv => lhs; whnf) <;> exact rfl); (with_reducible assumption)) | (apply OKx_lenO; ((conv => lhs; whnf) <;> exact rfl); (first | exact at0 | exact at1 | exact at2 | exact at3 | exact at4 | exact at5 | exact at6 | exact at7)))
  first | refine bodyQ_r1 (by ((conv => lhs; whnf) <;> exact rfl)) ?_ | refine bodyQ_r2 (by ((conv => lhs; whnf) <;> exact rfl)) (by ((conv => lhs; whnf) <;> exact rfl)) ?_ | refine bodyQ_r3 (by ((conv => lhs; whnf) <;> exact rfl)) (by ((conv => lhs; whnf) <;> exact rfl)) (by ((conv => lhs; whnf) <;> exact rfl)) ?_ | refine bodyQ_r0 ?_ | refine bodyQ_n0 ?_
  exact ⟨_, Ent.refl _ _, rfl, rfl⟩
set_option maxRecDepth 100000 in
set_option maxHeartbeats 4000000 in
theorem compact_nil_sat (w : World) : SatV Try.prog 57 [.slice none 0 0] w (.slice none 0 0) :=
  Sat.lib ⟨_, _, Try.func57, by kernel_rfl, rfl⟩ fun w1 _ => (Try.slices_Compact_int_empty none 0 w1).mono fun e w' ⟨h1, h2⟩ => ⟨_, [], h1, h2 ▸ Hp.refl _, rfl, rfl⟩
end Go.Proofs.Ytmclgfipdgmomaa
namespace Go.Proofs.Ytmclgfipdgmomaa
open Go.RowKit
section
variable {P : Program} {n : Nat} {w0 : World} {K : Fm → List Res → Prop} {F : Fm} {L : List Res} {m : Md} {Lw : List Res} {ops : Array Oper} {rest : List Oper}
  {d : Option Nat} {ty : TypeId} {pos : String} {aft : Array Edge}
theorem OKx_slit6 {t e bytes : Nat} {z : Value} [T : TSlice P t e 1 bytes z] {x1 x2 x3 x4 x5 x6 : Operand} {v1 v2 v3 v4 v5 v6 : Value} [hE : Keeps w0 L Lw] (h1 : rv n F x1 = v1) (h2 : rv n F x2 = v2) (h3 : rv n F x3 = v3) (h4 : rv n F x4 = v4) (h5 : rv n F x5 = v5) (h6 : rv n F x6 = v6) (c1 : v1.cells = #[v1]) (c2 : v2.cells = #[v2]) (c3 : v3.cells = #[v3]) (c4 : v4.cells = #[v4]) (c5 : v5.cells = #[v5]) (c6 : v6.cells = #[v6])
    (kk : ∀ g, OKx P n w0 (.seq Lw) ops K rest (updo F d (.slice (some ⟨g, 0, none⟩) 6 6)) (.row e 1 (.slice (some ⟨g, 0, none⟩) 6 6) 6 [v1, v2, v3, v4, v5, v6] :: L)) :
    OKx P n w0 (.seq Lw) ops K (⟨d, .buildSlice t 6 #[(0, x1), (1, x2), (2, x3), (3, x4), (4, x5), (5, x6)], ty, pos, aft, none⟩ :: rest) F L :=
  OKx_slit (sz := 1) (vs := [v1, v2, v3, v4, v5, v6]) (cs := [[v1], [v2], [v3], [v4], [v5], [v6]]) [v1, v2, v3, v4, v5, v6] rfl (by simp [h1, h2, h3, h4, h5, h6]) (by simp [c1, c2, c3, c4, c5, c6]) rfl rfl rfl kk
theorem max2_run {k : IntKind} {a b : Int} {w : World} : (Builtin.max2 (.int k a) (.int k b)).run P w = .ok (.int k (max a b)) w := by
  have e : (if b > a then b else a) = max a b := by split <;> omega
  simp [Builtin.max2, e]
theorem OKx_max4 {x1 x2 x3 x4 : Operand} {tt : Array TypeId} {k : IntKind} {a b c e r : Int} (h1 : rv n F x1 = .int k a) (h2 : rv n F x2 = .int k b) (h3 : rv n F x3 = .int k c) (h4 : rv n F x4 = .int k e) (hr : max (max (max a b) c) e = r)
    (kk : OKx P n w0 m ops K rest (updo F d (.int k r)) L) : OKx P n w0 m ops K (⟨d, .call { callee := .builtin .max, args := #[x1, x2, x3, x4], argTypes := tt }, ty, pos, aft, none⟩ :: rest) F L := by
  subst hr
  refine OKx_still (fun w _ _ _ _ _ => ?_) kk
  simp [execOp, resolve, invoke, builtin, h1, h2, h3, h4, Builtin.max_, max2_run, Sem.run_bind, Result.andThen]
theorem OKx_idxOn {t e sz bytes : Nat} {z : Value} [T : TSlice P t e sz bytes z] {x ix : Operand} {g N cap : Nat} {k : IntKind} {i : Nat} (hx : rv n F x = .slice (some ⟨g, 0, none⟩) N cap) (hix : rv n F ix = .int k (i : Int)) (h1 : i < N)
    (kk : OKx P n w0 m ops K rest (updo F d (.pointer (some ⟨g, i * sz, none⟩))) L) : OKx P n w0 m ops K (⟨d, .indexAddr t x ix, ty, pos, aft, none⟩ :: rest) F L :=
  OKx_still (fun w _ _ _ _ _ => by
    have := run_index T hx hix (by omega) (by omega) w (ty := ty)
    simp only [Int.toNat_natCast, Nat.zero_add] at this
    exact this _ _ _ _) kk
theorem OKx_ldWA {t sz : Nat} {zs : List Value} [T : TAgg P t sz zs] {x : Operand} {g k : Nat} (i : Nat) {e : TypeId} {N cap : Nat} {cs vs : List Value} (hx : rv n F x = .pointer (some ⟨g, k, none⟩)) (hi : L[i]? = some (.row e sz (.slice (some ⟨g, 0, none⟩) N cap) N cs)) (hk : k + sz ≤ N * sz) (hl : vs.length = sz) (hv : ∀ j, j < sz → cs[k + j]? = vs[j]?)
    (kk : OKx P n w0 m ops K rest (updo F d (.agg vs.toArray)) L) : OKx P n w0 m ops K (⟨d, .load t x, ty, pos, aft, none⟩ :: rest) F L :=
  OKx_still (fun w hp _ _ _ _ => run_loadA T hx hl (fun j hj => by
    rw [(hp.rowAt i hi).1 (k + j) (by omega)]
    exact hv j (by omega)) _ _ _ _) kk
end
section
variable {B : Nat} {w0 w : World} {L : List Res}
def strs (xs : List ByteArray) : List Value := xs.map Value.string
theorem Hp.strs (h : Hp B w0 w L) (i : Nat) {e : TypeId} {n : Nat} {v : Value} {xs : List ByteArray} (hi : L[i]? = some (.row e 1 v n (strs xs))) (hn : n ≤ 140737488355328) (hs : ∀ s ∈ xs, s.size ≤ 140737488355328) : Strs w v xs := by
  have ho : w.ownsRow B e 1 v n (Go.Proofs.Ytmclgfipdgmomaa.strs xs) := h.ok _ (List.mem_of_getElem? hi)
  have hl := ho.1
  simp only [Go.Proofs.Ytmclgfipdgmomaa.strs, List.length_map, Nat.mul_one] at hl
  subst hl
  refine ⟨h.sl i hi hn fun j hj => ?_, hs⟩
  have hj' : j < xs.length := by omega
  simp [Go.Proofs.Ytmclgfipdgmomaa.strs, hj']
theorem Hp.tabs (h : Hp B w0 w L) (i : Nat) {e : TypeId} {n : Nat} {v : Value} {vs : List Value} {xs : List (List Int)} (hi : L[i]? = some (.row e 1 v n vs)) (hn : n ≤ 140737488355328) (hl : xs.length = n) (hv : ∀ j, j < n → Ints w (vs.getD j undef) (xs.getD j [])) : Tabs w v xs := by
  have ho : w.ownsRow B e 1 v n vs := h.ok _ (List.mem_of_getElem? hi)
  have hvl := ho.1
  rw [Nat.mul_one] at hvl
  subst hl
  refine ⟨vs, h.sl i hi hn fun j hj => ?_, hvl, fun j hj => ?_⟩
  · have hj' : j < vs.length := by omega
    simp [hj']
  · have := hv j hj
    rwa [getD_lt _ _ _ hj] at this
theorem Hp.stm (h : Hp B w0 w L) (i j k : Nat) {e1 e2 e3 : TypeId} {n1 n2 n3 : Nat} {nv ev pv : Value} {ns : List ByteArray} {es : List Bool} {vs : List Value} {ps : List (List Int)} (hi : L[i]? = some (.row e1 1 nv n1 (Go.Proofs.Ytmclgfipdgmomaa.strs ns))) (hj : L[j]? = some (.row e2 1 ev n2 (Go.Proofs.Ytmclgfipdgmomaa.bools es))) (hk : L[k]? = some (.row e3 1 pv n3 vs))
    (b1 : n1 ≤ 1000) (b2 : n2 ≤ 1000) (b3 : n3 ≤ 1000) (hs : (ns.all fun s => decide (s.size ≤ 1000)) = true) (hl : ps.length = n3) (hv : ∀ j, j < n3 → Ints w (vs.getD j undef) (ps.getD j [])) : Stm w (.agg #[nv, ev, pv]) ⟨ns, es, ps⟩ :=
  ⟨nv, ev, pv, rfl, h.strs i hi (by omega) (fun s hm => by have := List.all_eq_true.1 hs s hm; have := of_decide_eq_true this; omega), h.bools j hj (by omega), h.tabs k hk (by omega) hl hv⟩
theorem ltn2 {p : Nat → Prop} (h0 : p 0) (h1 : p 1) : ∀ j, j < 2 → p j
  | 0, _ => h0
  | 1, _ => h1
  | j + 2, h => absurd h (by omega)
theorem ltn6 {p : Nat → Prop} (h0 : p 0) (h1 : p 1) (h2 : p 2) (h3 : p 3) (h4 : p 4) (h5 : p 5) : ∀ j, j < 6 → p j
  | 0, _ => h0
  | 1, _ => h1
  | 2, _ => h2
  | 3, _ => h3
  | 4, _ => h4
  | 5, _ => h5
  | j + 6, h => absurd h (by omega)
end
set_option maxRecDepth 100000 in
set_option maxHeartbeats 4000000 in
theorem equalT_sat (v u : Value) (xs ys : List Int) (w : World) (h : Ints w v xs) (k : Ints w u ys) (e : xs = ys) : SatV Try.prog 25 [v, u] w (.bool true) := by
  have := equal_int_sat v u xs ys w h k
  rwa [show (xs == ys) = true by rw [e]; simp] at this
end Go.Proofs.Ytmclgfipdgmomaa
namespace Go.Proofs.Ytmclgfipdgmomaa
open Go.RowKit
section
variable {P : Program} {n : Nat} {w0 : World} {K : Fm → List Res → Prop} {F : Fm} {L : List Res} {m : Md} {Lw : List Res} {ops : Array Oper} {rest : List Oper}
  {d : Option Nat} {ty : TypeId} {pos : String} {aft : Array Edge}
theorem madeCells_same (u : Value) (sz k : Nat) (hs : 0 < sz) : (madeCells (List.replicate sz u).toArray k).toList = List.replicate k u := by
  unfold madeCells
  apply List.ext_getElem
  · simp
  · intro i h1 h2
    have hm : i % sz < sz := Nat.mod_lt _ hs
    simp [hm]
theorem OKx_makeN {l c : Operand} {t e sz bytes : Nat} {z : Value} (u : Value) [T : TSlice P t e sz bytes z] {kl kc : IntKind} {N : Nat} [hE : Keeps w0 L Lw] (hl : rv n F l = .int kl (N : Int)) (hc : rv n F c = .int kc (N : Int)) (hz : z.cells = (List.replicate sz u).toArray) (hs : Nat.ble 1 sz = true) (hb : bytes * N ≤ 281474976710656) (hn : N ≤ 9223372036854775807)
    (kk : ∀ g, OKx P n w0 (.seq Lw) ops K rest (updo F d (.slice (some ⟨g, 0, none⟩) N N)) (.row e sz (.slice (some ⟨g, 0, none⟩) N N) N (List.replicate (N * sz) u) :: L)) :
    OKx P n w0 (.seq Lw) ops K (⟨d, .makeSlice t l c, ty, pos, aft, none⟩ :: rest) F L := by
  refine OKx_actW hE.ent fun w a hfr hp => wp_of_list (ops := ops) rfl ?_
  obtain ⟨i0, hi0, hz0, hz1, hz2⟩ := info_parts T.ty.inf
  refine wpList_make_full w rfl l c t rfl w0.heap.size e i0 z sz T.ty.und hi0 hz0 hz1 kl kc _ _ N (by rw [hfr.eval]; exact hl) (by rw [hfr.eval]; exact hc) rfl rfl (by rw [hz2]; exact hb) (by unfold maxLen; omega) hp.base ?_
  intro w' hown hg
  have hs' : 0 < sz := by rw [Nat.ble_eq] at hs; exact hs
  rw [hz, madeCells_same u sz _ hs'] at hown
  have hp' := hp.fresh (r := .row e sz (.slice (some ⟨w.heap.size, 0, .none⟩) N N) N (List.replicate (N * sz) u)) hown ⟨hg.os, hg.tape, hg.output, hg.size, fun k hk => hg.block k hk (by simp)⟩ (fun k hk => by simp [Res.blk, Value.ownBlock] at hk; omega)
  exact ⟨rfl, (kk w.heap.size).use w' _ (hfr.put d _) hp'⟩
theorem OKx_idxA {t len e : Nat} {z : Value} [T : TOne P e z] (hu : P.underlying t = some (.array len e)) {x ix : Operand} {g o : Nat} {k : IntKind} {i : Nat} (hx : rv n F x = .pointer (some ⟨g, o, none⟩)) (hix : rv n F ix = .int k (i : Int)) (h1 : i < len)
    (kk : OKx P n w0 m ops K rest (updo F d (.pointer (some ⟨g, o + i, none⟩))) L) : OKx P n w0 m ops K (⟨d, .indexAddr t x ix, ty, pos, aft, none⟩ :: rest) F L :=
  OKx_still (fun w _ _ _ _ _ => by
    have hu' : (underlying t).run P w = .ok (.array len e) w := by simp [underlying, program, Sem.run_bind, Sem.run, hu, Result.andThen]
    simp [execOp, Instr.indexAt, hx, hix, asIntOf, Sem.run_bind, hu', T.size, Result.andThen, Instr.sureAddr, h1, add_at]) kk
theorem OKx_idxAz {t len e : Nat} {z : Value} [T : TOne P e z] (hu : P.underlying t = some (.array len e)) {x ix : Operand} {g o : Nat} {k : IntKind} {i : Int} (hx : rv n F x = .pointer (some ⟨g, o, none⟩)) (hix : rv n F ix = .int k i) (h0 : 0 ≤ i) (h1 : i < len)
    (kk : OKx P n w0 m ops K rest (updo F d (.pointer (some ⟨g, o + i.toNat, none⟩))) L) : OKx P n w0 m ops K (⟨d, .indexAddr t x ix, ty, pos, aft, none⟩ :: rest) F L := by
  obtain ⟨j, rfl⟩ := Int.eq_ofNat_of_zero_le h0
  exact OKx_idxA hu hx hix (by omega) kk
theorem OKx_idxAgg {t len e : Nat} {z : Value} [T : TOne P e z] (hu : P.underlying t = some (.array len e)) {x ix : Operand} {cs : Array Value} {k : IntKind} {i : Nat} {v : Value} (hx : rv n F x = .agg cs) (hix : rv n F ix = .int k (i : Int)) (h1 : i < len) (hv : cs[i]? = some v)
    (kk : OKx P n w0 m ops K rest (updo F d v) L) : OKx P n w0 m ops K (⟨d, .index t x ix, ty, pos, aft, none⟩ :: rest) F L :=
  OKx_still (fun w _ _ _ _ _ => by
    have hu' : (underlying t).run P w = .ok (.array len e) w := by simp [underlying, program, Sem.run_bind, Sem.run, hu, Result.andThen]
    simp [execOp, Instr.index, hx, hix, asIntOf, Sem.run_bind, hu', T.size, Result.andThen, h1, part, T.agg, hv]) kk
theorem OKx_stWs {t : TypeId} {z : Value} [T : TOne P t z] {x y : Operand} {g k : Nat} {v : Value} [hE : Keeps w0 L Lw] (i : Nat) {e sz : Nat} {N cap : Nat} {cs cs' : List Value} {L' : List Res} (hx : rv n F x = .pointer (some ⟨g, k, none⟩)) (hy : rv n F y = v) (h1 : v.oneCell' = true) (hv : v.cells = #[v]) (hi : L[i]? = some (.row e sz (.slice (some ⟨g, 0, none⟩) N cap) N cs)) (hk : k < N * sz)
    (hs : cs.set k v = cs') (hL : L.set i (.row e sz (.slice (some ⟨g, 0, none⟩) N cap) N cs') = L') (kk : OKx P n w0 (.seq Lw) ops K rest (updo F d undef) L') : OKx P n w0 (.seq Lw) ops K (⟨d, .store t x y, ty, pos, aft, none⟩ :: rest) F L := by
  subst hs; subst hL
  refine OKx_act0 hE.ent fun w hp => ⟨_, _, ?_, hp.setRow hi k v, kk⟩
  obtain ⟨hc, hf, _, _⟩ := hp.rowAt i hi
  have ho : w.ownsRow w0.heap.size e sz (.slice (some ⟨g, 0, none⟩) N cap) N cs := hp.ok _ (List.mem_of_getElem? hi)
  have hl := ho.1
  exact run_store1 T hx hy h1 hv ((hc k hk).trans (List.getElem?_eq_getElem (by omega))) (hf k) _ _ _ _
end
end Go.Proofs.Ytmclgfipdgmomaa
