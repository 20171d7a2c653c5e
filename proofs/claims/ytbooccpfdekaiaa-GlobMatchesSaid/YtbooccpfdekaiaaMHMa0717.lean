/-
  Part 17 of the proof: Fu07, Pc07, Ph07. No statement of the seat is proved here.
-/
import Derived.Test.YtbooccpfdekaiaaMHMa0716
namespace Go.Proofs.Ytbooccpfdekaiaa
open Go.RowKit
theorem sub_flat {xs : List (List UInt8)} {x : List UInt8} (h : x ∈ xs) : x.length ≤ xs.flatten.length := by
  induction xs with
  | nil => cases h
  | cons y xs ih =>
    rw [List.flatten_cons, List.length_append]
    rcases List.mem_cons.1 h with rfl | h
    · omega
    · have := ih h
      omega
theorem pts {p : List UInt8} (hp : patE p = 0) : (∀ x ∈ prts p, okPart x) ∧ (∀ x ∈ prts p, x.length ≤ 64) ∧ (prts p).length ≤ 64 ∧ p.length ≤ 64 := by
  obtain ⟨hl, he⟩ := patE_len hp
  have h := prts_ok _ p (Nat.le_refl _) he
  have h2 := prts_len p
  refine ⟨h.1, fun x hx => ?_, by omega, hl⟩
  have := sub_flat hx
  rw [h.2] at this
  omega
theorem els_size {p : List UInt8} (hp : patE p = 0) : ∀ s ∈ (prts p).map bOf, s.size ≤ 140737488355328 := fun s hs => by
  obtain ⟨x, hx, rfl⟩ := List.mem_map.1 hs
  have := (pts hp).2.1 x hx
  rw [bOf_size]
  omega
theorem Hp.els {B : Nat} {w0 w : World} {L : List Res} (h : Hp B w0 w L) (i : Nat) {v : Value} {p : List UInt8} (hi : L[i]? = some (.row 9 1 v (prts p).length (Go.Proofs.Ytbooccpfdekaiaa.strs ((prts p).map bOf)))) (hp : patE p = 0) : Strs w v ((prts p).map bOf) :=
  h.strs i hi (by have := (pts hp).2.2.1;omega) (els_size hp)
theorem mtc_ok7 {p s : List UInt8} (hp : patE p = 0) (hs : chkS s = 0) : mtcB p s = mtB (pat p) s ∧ mtcE p s = 0 := by
  have h : mtcE p s = 0 := by
    unfold mtcE
    rw [if_neg (by rw [hp]; decide), hs]
  unfold mtcB
  rw [h]
  exact ⟨rfl, rfl⟩
set_option maxRecDepth 100000 in
set_option maxHeartbeats 4000000 in
theorem rMatch_sat (p s : List UInt8) (w : World) (hp : p.length ≤ 140737488355328) (hs : s.length ≤ 140737488355328) : SatV Try.prog 28 [.string (bOf p), .string (bOf s)] w (.tuple #[.bool (mtcB p s), .int .i64 (mtcE p s)]) := by
  have c1 := fun w1 => rCheck_sat p w1 hp
  have c2 := fun w1 => rcheckW_sat s w1 hs
  have hb := patE_bd p
  by_cases h : patE p = 0
  rotate_left
  · have e1 : mtcE p s = 1 := if_pos h
    have e2 : mtcB p s = false := by unfold mtcB; rw [e1]; rfl
    rw [e1, e2]
    refine SatL.of 19 [4, 5] Try.func28 (by kernel_rfl) (by kernel_rfl) rfl rfl rfl rfl ?_
    repeat' (first|(apply OK_seq)|(apply thenQ_n)|(apply OK_region)|(apply OKx_gc 25;exact rfl; refine OKx_callV (f := 25) rfl rfl rfl (fun w1 hp => c1 w1) ?_)|(apply OKx_nilK)|(apply OK_block)|(apply blockQ_n)|(apply blockQ_s)|(apply thenQ_e)|(apply blockQ_e;exact rfl)|(apply thenQ_r)|(apply blockQ_r)|(apply OK_condT;exact rfl)|(apply OK_condF;exact rfl)|(apply OK_skip)|(apply OK_exit)|(apply OK_ret)|(apply OKx_move;(conv=>lhs;whnf)<;>exact rfl)|(apply OKx_assign;(conv=>lhs;whnf)<;>exact rfl)|(apply OKx_neq;exact rfl;exact rfl;all_goals (intro _; try (exfalso;omega))))
    refine bodyQ_r2 (by ((conv=>lhs;whnf)<;>exact rfl)) (by ((conv=>lhs;whnf)<;>exact rfl)) ?_
    exact ⟨_, Ent.nil, rfl, rfl⟩
  obtain ⟨q1, q2, q3, q4⟩ := pts h
  by_cases hc : chkS s = 0
  rotate_left
  · have e1 : mtcE p s = chkS s := if_neg (fun hh => hh h)
    have e2 : mtcB p s = false := by unfold mtcB; rw [e1, if_pos hc]
    rw [e1, e2]
    have hcb := chkS_bd s
    generalize chkS s = e at *
    refine SatL.of 19 [4, 5] Try.func28 (by kernel_rfl) (by kernel_rfl) rfl rfl rfl rfl ?_
    repeat' (first|(apply OK_seq)|(apply thenQ_n)|(apply OK_region)|(apply OKx_gc 25;exact rfl; refine OKx_callV (f := 25) rfl rfl rfl (fun w1 hp => c1 w1) ?_)|(apply OKx_gc 47;exact rfl; refine OKx_callV (f := 47) rfl rfl rfl (fun w1 hp => c2 w1) ?_)|(apply OKx_nilK)|(apply OK_block)|(apply blockQ_n)|(apply blockQ_s)|(apply thenQ_e)|(apply blockQ_e;exact rfl)|(apply thenQ_r)|(apply blockQ_r)|(apply OK_condT;exact rfl)|(apply OK_condF;exact rfl)|(apply OK_skip)|(apply OK_exit)|(apply OK_ret)|(apply OKx_move;(conv=>lhs;whnf)<;>exact rfl)|(apply OKx_assign;(conv=>lhs;whnf)<;>exact rfl)|(apply OKx_neq;exact rfl;exact rfl;all_goals (intro _; try (exfalso;omega))))
    refine bodyQ_r2 (by ((conv=>lhs;whnf)<;>exact rfl)) (by ((conv=>lhs;whnf)<;>exact rfl)) ?_
    exact ⟨_, Ent.nil, rfl, rfl⟩
  · obtain ⟨e2, e1⟩ := mtc_ok7 h hc
    have hs64 : s.length ≤ 64 := by
      refine Decidable.byContradiction fun hh => ?_
      unfold chkS at hc
      rw [if_pos (by omega)] at hc
      cases hc
    rw [e1, e2]
    rw [hc] at c2
    refine SatL.of 19 [4, 5] Try.func28 (by kernel_rfl) (by kernel_rfl) rfl rfl rfl rfl ?_
    repeat' (first|(apply OK_seq)|(apply thenQ_n)|(apply OK_region)|(apply OKx_gc 25;exact rfl; refine OKx_callV (f := 25) rfl rfl rfl (fun w1 hp => c1 w1) ?_)|(apply OKx_gc 47;exact rfl; refine OKx_callV (f := 47) rfl rfl rfl (fun w1 hp => c2 w1) ?_)|(apply OKx_gc 41;exact rfl; refine OKx_call (f := 41) rfl rfl (fun w1 hp => rEls_sat p w1 h) ?_; intro v L9 hL9; obtain rfl := hL9; rw [List.append_nil])|(apply OKx_gc 48;exact rfl; refine OKx_callV (f := 48) rfl rfl rfl (fun w1 hp => rMatches_sat _ (prts p) s w1 (hp.els 0 rfl h) q1 q3 q2 hs64) ?_)|(apply OKx_nilK)|(apply OK_block)|(apply blockQ_n)|(apply blockQ_s)|(apply thenQ_e)|(apply blockQ_e;exact rfl)|(apply thenQ_r)|(apply blockQ_r)|(apply OK_condT;exact rfl)|(apply OK_condF;exact rfl)|(apply OK_skip)|(apply OK_exit)|(apply OK_ret)|(apply OKx_move;(conv=>lhs;whnf)<;>exact rfl)|(apply OKx_assign;(conv=>lhs;whnf)<;>exact rfl)|(apply OKx_neq;exact rfl;exact rfl;all_goals (intro _; try (exfalso;omega))))
    refine bodyQ_r2 (by ((conv=>lhs;whnf)<;>exact rfl)) (by ((conv=>lhs;whnf)<;>exact rfl)) ?_
    exact ⟨_, Ent.nil, rfl, rfl⟩
set_option maxRecDepth 100000 in
set_option maxHeartbeats 4000000 in
theorem great_sat (s : List UInt8) (w : World) : SatV Try.prog 19 [.string (bOf s)] w (.bool (decide ((12 < s.length ∧ s.length ≤ 64) ∨ 66 < s.length))) := by
  have hz : (bOf s).size = s.length := bOf_size s
  by_cases h : (12 < s.length ∧ s.length ≤ 64) ∨ 66 < s.length
  · rw [decide_eq_true h]
    refine SatL.of 16 [2] Try.func19 (by kernel_rfl) (by kernel_rfl) rfl rfl rfl rfl ?_
    repeat' (first|(apply OK_seq)|(apply thenQ_n)|(apply OK_region)|(apply OKx_nilK)|(apply OK_block)|(apply blockQ_n)|(apply blockQ_s)|(apply thenQ_e)|(apply blockQ_e;exact rfl)|(apply thenQ_r)|(apply blockQ_r)|(apply OK_condT;exact rfl)|(apply OK_condF;exact rfl)|(apply OK_skip)|(apply OK_exit)|(apply OK_ret)|(apply OKx_move;(conv=>lhs;whnf)<;>exact rfl)|(apply OKx_assign;(conv=>lhs;whnf)<;>exact rfl)|(apply OKx_lenS;exact rfl)|(apply OKx_leq;exact rfl;exact rfl;all_goals (intro _; try (exfalso;omega)))|(apply OKx_gtr;exact rfl;exact rfl;all_goals (intro _; try (exfalso;omega)))|(apply OKx_pickT;exact rfl;(conv=>lhs;whnf)<;>exact rfl)|(apply OKx_pickF;exact rfl;(conv=>lhs;whnf)<;>exact rfl)|(apply OKx_guardT;exact rfl;exact rfl)|(apply OKx_guardF;exact rfl;exact rfl)|(apply OKx_guardU;exact rfl;exact rfl))
    all_goals
      refine bodyQ_r1 (by ((conv=>lhs;whnf)<;>exact rfl)) ?_
      exact ⟨_, Ent.nil, rfl, rfl⟩
  · rw [decide_eq_false h]
    refine SatL.of 16 [2] Try.func19 (by kernel_rfl) (by kernel_rfl) rfl rfl rfl rfl ?_
    repeat' (first|(apply OK_seq)|(apply thenQ_n)|(apply OK_region)|(apply OKx_nilK)|(apply OK_block)|(apply blockQ_n)|(apply blockQ_s)|(apply thenQ_e)|(apply blockQ_e;exact rfl)|(apply thenQ_r)|(apply blockQ_r)|(apply OK_condT;exact rfl)|(apply OK_condF;exact rfl)|(apply OK_skip)|(apply OK_exit)|(apply OK_ret)|(apply OKx_move;(conv=>lhs;whnf)<;>exact rfl)|(apply OKx_assign;(conv=>lhs;whnf)<;>exact rfl)|(apply OKx_lenS;exact rfl)|(apply OKx_leq;exact rfl;exact rfl;all_goals (intro _; try (exfalso;omega)))|(apply OKx_gtr;exact rfl;exact rfl;all_goals (intro _; try (exfalso;omega)))|(apply OKx_pickT;exact rfl;(conv=>lhs;whnf)<;>exact rfl)|(apply OKx_pickF;exact rfl;(conv=>lhs;whnf)<;>exact rfl)|(apply OKx_guardT;exact rfl;exact rfl)|(apply OKx_guardF;exact rfl;exact rfl)|(apply OKx_guardU;exact rfl;exact rfl))
    all_goals
      refine bodyQ_r1 (by ((conv=>lhs;whnf)<;>exact rfl)) ?_
      exact ⟨_, Ent.nil, rfl, rfl⟩
set_option maxRecDepth 100000 in
set_option maxHeartbeats 4000000 in
theorem rFilter_sat (p : List UInt8) (v : Value) (xs : List ByteArray) (w : World) (hx : Strs w v xs) (hp : p.length ≤ 140737488355328) : Sat Try.prog 30 [.string (bOf p), v] w (FilR p xs) := by
  have hsl := hx.1
  have c1 := fun w1 => rCheck_sat p w1 hp
  have hb := patE_bd p
  have hbad : ∀ e, filE p xs = e → e ≠ 0 → FilR p xs (.tuple #[.slice none 0 0, .int .i64 e]) [.row 9 1 (.slice none 0 0) 0 []] := fun e he h0 =>
    ⟨_, by rw [he], by unfold filL; rw [if_pos (by rw [he]; exact h0)]; rfl⟩
  by_cases h : patE p = 0
  rotate_left
  · have e1 : filE p xs = 1 := if_pos h
    refine SatL.of 43 [4, 5] Try.func30 (by kernel_rfl) (by kernel_rfl) rfl rfl rfl rfl ?_
    repeat' (first|(apply OK_seq)|(apply thenQ_n)|(apply OK_region)|(apply OKx_gc 25;exact rfl; refine OKx_callV (f := 25) rfl rfl rfl (fun w1 hp => c1 w1) ?_)|(apply OKx_nilK)|(apply OK_block)|(apply blockQ_n)|(apply blockQ_s)|(apply thenQ_e)|(apply blockQ_e;exact rfl)|(apply thenQ_r)|(apply blockQ_r)|(apply OK_condT;exact rfl)|(apply OK_condF;exact rfl)|(apply OK_skip)|(apply OK_exit)|(apply OK_ret)|(apply OKx_move;(conv=>lhs;whnf)<;>exact rfl)|(apply OKx_assign;(conv=>lhs;whnf)<;>exact rfl)|(apply OKx_ldB;exact rfl;(first | exact at0|exact at1|exact at2|exact at3|exact at4|exact at5|exact at6|exact at7);exact rfl)|(apply OKx_ldR;(conv=>lhs;whnf)<;>exact rfl;(with_reducible assumption))|(apply OKx_len;exact rfl)|(apply OKx_lenR;(conv=>lhs;whnf)<;>exact rfl;(with_reducible assumption))|(apply OKx_lenR2;(conv=>lhs;whnf)<;>exact rfl;(with_reducible assumption))|(apply OKx_lenO;(conv=>lhs;whnf)<;>exact rfl;(first | exact at0|exact at1|exact at2|exact at3|exact at4|exact at5|exact at6|exact at7))|(apply OKx_lss;exact rfl;exact rfl;all_goals (intro _; try (exfalso;omega)))|(apply OKx_gtr;exact rfl;exact rfl;all_goals (intro _; try (exfalso;omega)))|(apply OKx_neq;exact rfl;exact rfl;all_goals (intro _; try (exfalso;omega)))|(apply OKx_idxO;exact rfl;exact rfl;omega)|(apply OKx_idxR;(conv=>lhs;whnf)<;>exact rfl;(with_reducible assumption);exact rfl;omega;intro _ _)|(apply OKx_idxOz;exact rfl;exact rfl;omega;omega)|(apply OKx_idxRz;(conv=>lhs;whnf)<;>exact rfl;(with_reducible assumption);exact rfl;omega;omega;intro _ _)|(apply OKx_inc;exact rfl;exact rfl;omega)|(apply OKx_addN;exact rfl;exact rfl;omega)|(apply OKx_add;exact rfl;exact rfl;omega;omega)|(apply OKx_extract;exact rfl;(conv=>lhs;whnf)<;>exact rfl)|(apply OKx_slit1;(conv=>lhs;whnf)<;>exact rfl;exact rfl;intro _))
    refine bodyQ_r2 (by ((conv=>lhs;whnf)<;>exact rfl)) (by ((conv=>lhs;whnf)<;>exact rfl)) ?_
    exact ⟨_, Ent.mk fun w1 h1 => (h1.none).nil _ _, hbad _ e1 (by decide)⟩
  by_cases hm : 4096 < xs.length
  · have e1 : filE p xs = 4 := by unfold filE; rw [if_neg (fun hh => hh h), if_pos hm]
    refine SatL.of 43 [4, 5] Try.func30 (by kernel_rfl) (by kernel_rfl) rfl rfl rfl rfl ?_
    repeat' (first|(apply OK_seq)|(apply thenQ_n)|(apply OK_region)|(apply OKx_gc 25;exact rfl; refine OKx_callV (f := 25) rfl rfl rfl (fun w1 hp => c1 w1) ?_)|(apply OKx_nilK)|(apply OK_block)|(apply blockQ_n)|(apply blockQ_s)|(apply thenQ_e)|(apply blockQ_e;exact rfl)|(apply thenQ_r)|(apply blockQ_r)|(apply OK_condT;exact rfl)|(apply OK_condF;exact rfl)|(apply OK_skip)|(apply OK_exit)|(apply OK_ret)|(apply OKx_move;(conv=>lhs;whnf)<;>exact rfl)|(apply OKx_assign;(conv=>lhs;whnf)<;>exact rfl)|(apply OKx_ldB;exact rfl;(first | exact at0|exact at1|exact at2|exact at3|exact at4|exact at5|exact at6|exact at7);exact rfl)|(apply OKx_ldR;(conv=>lhs;whnf)<;>exact rfl;(with_reducible assumption))|(apply OKx_len;exact rfl)|(apply OKx_lenR;(conv=>lhs;whnf)<;>exact rfl;(with_reducible assumption))|(apply OKx_lenR2;(conv=>lhs;whnf)<;>exact rfl;(with_reducible assumption))|(apply OKx_lenO;(conv=>lhs;whnf)<;>exact rfl;(first | exact at0|exact at1|exact at2|exact at3|exact at4|exact at5|exact at6|exact at7))|(apply OKx_lss;exact rfl;exact rfl;all_goals (intro _; try (exfalso;omega)))|(apply OKx_gtr;exact rfl;exact rfl;all_goals (intro _; try (exfalso;omega)))|(apply OKx_neq;exact rfl;exact rfl;all_goals (intro _; try (exfalso;omega)))|(apply OKx_idxO;exact rfl;exact rfl;omega)|(apply OKx_idxR;(conv=>lhs;whnf)<;>exact rfl;(with_reducible assumption);exact rfl;omega;intro _ _)|(apply OKx_idxOz;exact rfl;exact rfl;omega;omega)|(apply OKx_idxRz;(conv=>lhs;whnf)<;>exact rfl;(with_reducible assumption);exact rfl;omega;omega;intro _ _)|(apply OKx_inc;exact rfl;exact rfl;omega)|(apply OKx_addN;exact rfl;exact rfl;omega)|(apply OKx_add;exact rfl;exact rfl;omega;omega)|(apply OKx_extract;exact rfl;(conv=>lhs;whnf)<;>exact rfl)|(apply OKx_slit1;(conv=>lhs;whnf)<;>exact rfl;exact rfl;intro _))
    refine bodyQ_r2 (by ((conv=>lhs;whnf)<;>exact rfl)) (by ((conv=>lhs;whnf)<;>exact rfl)) ?_
    exact ⟨_, Ent.mk fun w1 h1 => (h1.none).nil _ _, hbad _ e1 (by decide)⟩
  have hfe : filE p xs = errS xs := by unfold filE; rw [if_neg (fun hh => hh h), if_neg hm]
  refine SatL.of 43 [4, 5] Try.func30 (by kernel_rfl) (by kernel_rfl) rfl rfl rfl rfl ?_
  repeat' (first|(apply OK_seq)|(apply thenQ_n)|(apply OK_region)|(apply OKx_gc 25;exact rfl; refine OKx_callV (f := 25) rfl rfl rfl (fun w1 hp => c1 w1) ?_)|(apply OKx_nilK)|(apply OK_block)|(apply blockQ_n)|(apply blockQ_s)|(apply thenQ_e)|(apply blockQ_e;exact rfl)|(apply thenQ_r)|(apply blockQ_r)|(apply OK_condT;exact rfl)|(apply OK_condF;exact rfl)|(apply OK_skip)|(apply OK_exit)|(apply OK_ret)|(apply OKx_move;(conv=>lhs;whnf)<;>exact rfl)|(apply OKx_assign;(conv=>lhs;whnf)<;>exact rfl)|(apply OKx_ldB;exact rfl;(first | exact at0|exact at1|exact at2|exact at3|exact at4|exact at5|exact at6|exact at7);exact rfl)|(apply OKx_ldR;(conv=>lhs;whnf)<;>exact rfl;(with_reducible assumption))|(apply OKx_len;exact rfl)|(apply OKx_lenR;(conv=>lhs;whnf)<;>exact rfl;(with_reducible assumption))|(apply OKx_lenR2;(conv=>lhs;whnf)<;>exact rfl;(with_reducible assumption))|(apply OKx_lenO;(conv=>lhs;whnf)<;>exact rfl;(first | exact at0|exact at1|exact at2|exact at3|exact at4|exact at5|exact at6|exact at7))|(apply OKx_lss;exact rfl;exact rfl;all_goals (intro _; try (exfalso;omega)))|(apply OKx_gtr;exact rfl;exact rfl;all_goals (intro _; try (exfalso;omega)))|(apply OKx_neq;exact rfl;exact rfl;all_goals (intro _; try (exfalso;omega)))|(apply OKx_idxO;exact rfl;exact rfl;omega)|(apply OKx_idxR;(conv=>lhs;whnf)<;>exact rfl;(with_reducible assumption);exact rfl;omega;intro _ _)|(apply OKx_idxOz;exact rfl;exact rfl;omega;omega)|(apply OKx_idxRz;(conv=>lhs;whnf)<;>exact rfl;(with_reducible assumption);exact rfl;omega;omega;intro _ _)|(apply OKx_inc;exact rfl;exact rfl;omega)|(apply OKx_addN;exact rfl;exact rfl;omega)|(apply OKx_add;exact rfl;exact rfl;omega;omega)|(apply OKx_extract;exact rfl;(conv=>lhs;whnf)<;>exact rfl)|(apply OKx_slit1;(conv=>lhs;whnf)<;>exact rfl;exact rfl;intro _))
  refine OK_loop2 6 7 [4, 5, 6, 7, 8, 9, 16, 17, 18, 19, 20, 21, 22, 23, 24, 25, 26, 27, 28, 29, 30, 31, 32, 33, 34, 35, 36, 37, 38, 39, 40, 41] (fun mm u1 u2 L => ∃ k : Nat, k + mm = xs.length ∧ errS (xs.take k) = 0 ∧ u2 = .int .i64 (k : Int) ∧ L = [.row 9 1 u1 (filK p (xs.take k)).length (strs (filK p (xs.take k)))]) xs.length _ (Ent.mk fun w1 h1 => h1.nil _ _) ⟨0, by omega, rfl, rfl, rfl⟩ ?_
  rintro mm u1 u2 L G ⟨k, hkm, herr, rfl, rfl⟩
  by_cases hk : k < xs.length
  · have hxk : xs[k]? = some (xs.getD k ByteArray.empty) := by rw [getD_lt _ _ _ hk]; exact List.getElem?_eq_getElem hk
    have htk : xs.take (k + 1) = xs.take k ++ [xs.getD k ByteArray.empty] := by rw [List.take_add_one, hxk]; rfl
    have hsz := hx.2 _ (List.mem_of_getElem? hxk)
    have hfs := filK_snoc p (xs.take k) (xs.getD k ByteArray.empty)
    rw [← htk] at hfs
    have hfl := filK_le p (xs.take k)
    rw [List.length_take] at hfl
    have hes : ∀ e, chkS (xs.getD k ByteArray.empty).data.toList = e → e ≠ 0 → errS xs = e := fun e he h0 => by
      have hd : xs = xs.take k ++ (xs.getD k ByteArray.empty :: xs.drop (k + 1)) := by
        rw [getD_lt _ _ _ hk, ← List.drop_eq_getElem_cons hk, List.take_append_drop]
      rw [hd, errS_app _ _ herr]
      show (if chkS (xs.getD k ByteArray.empty).data.toList ≠ 0 then chkS (xs.getD k ByteArray.empty).data.toList else _) = e
      rw [if_pos (by rw [he]; exact h0), he]
    have hes0 : chkS (xs.getD k ByteArray.empty).data.toList = 0 → errS (xs.take (k + 1)) = 0 := fun he => by
      rw [htk, errS_app _ _ herr]
      show (if chkS (xs.getD k ByteArray.empty).data.toList ≠ 0 then chkS (xs.getD k ByteArray.empty).data.toList else 0) = 0
      rw [if_neg (fun hh => hh he)]
    have cm := fun w1 => rMatch_sat p (xs.getD k ByteArray.empty).data.toList w1 hp hsz
    rw [bOf_data] at cm
    by_cases hc : chkS (xs.getD k ByteArray.empty).data.toList = 0
    rotate_left
    · have hee := hes _ rfl hc
      have hcb := chkS_bd (xs.getD k ByteArray.empty).data.toList
      have e1 : mtcE p (xs.getD k ByteArray.empty).data.toList = chkS (xs.getD k ByteArray.empty).data.toList := if_neg (fun hh => hh h)
      rw [e1] at cm
      have hck2 := hc
      generalize chkS (xs.getD k ByteArray.empty).data.toList = ce at cm hee hck2 hcb
      generalize mtcB p (xs.getD k ByteArray.empty).data.toList = be at cm
      repeat' (first|(apply OK_seq)|(apply thenQ_n)|(apply OK_region)|(apply OKx_gc 28;exact rfl; refine OKx_callV (f := 28) rfl rfl rfl (fun w1 hp1 => cm w1) ?_)|(apply OKx_nilK)|(apply OK_block)|(apply blockQ_n)|(apply blockQ_s)|(apply thenQ_e)|(apply blockQ_e;exact rfl)|(apply thenQ_r)|(apply blockQ_r)|(apply OK_condT;exact rfl)|(apply OK_condF;exact rfl)|(apply OK_skip)|(apply OK_exit)|(apply OK_ret)|(apply OKx_move;(conv=>lhs;whnf)<;>exact rfl)|(apply OKx_assign;(conv=>lhs;whnf)<;>exact rfl)|(apply OKx_ldB;exact rfl;(first | exact at0|exact at1|exact at2|exact at3|exact at4|exact at5|exact at6|exact at7);exact rfl)|(apply OKx_ldR;(conv=>lhs;whnf)<;>exact rfl;(with_reducible assumption))|(apply OKx_len;exact rfl)|(apply OKx_lenR;(conv=>lhs;whnf)<;>exact rfl;(with_reducible assumption))|(apply OKx_lenR2;(conv=>lhs;whnf)<;>exact rfl;(with_reducible assumption))|(apply OKx_lenO;(conv=>lhs;whnf)<;>exact rfl;(first | exact at0|exact at1|exact at2|exact at3|exact at4|exact at5|exact at6|exact at7))|(apply OKx_lss;exact rfl;exact rfl;all_goals (intro _; try (exfalso;omega)))|(apply OKx_gtr;exact rfl;exact rfl;all_goals (intro _; try (exfalso;omega)))|(apply OKx_neq;exact rfl;exact rfl;all_goals (intro _; try (exfalso;omega)))|(apply OKx_idxO;exact rfl;exact rfl;omega)|(apply OKx_idxR;(conv=>lhs;whnf)<;>exact rfl;(with_reducible assumption);exact rfl;omega;intro _ _)|(apply OKx_idxOz;exact rfl;exact rfl;omega;omega)|(apply OKx_idxRz;(conv=>lhs;whnf)<;>exact rfl;(with_reducible assumption);exact rfl;omega;omega;intro _ _)|(apply OKx_inc;exact rfl;exact rfl;omega)|(apply OKx_addN;exact rfl;exact rfl;omega)|(apply OKx_add;exact rfl;exact rfl;omega;omega)|(apply OKx_extract;exact rfl;(conv=>lhs;whnf)<;>exact rfl)|(apply OKx_slit1;(conv=>lhs;whnf)<;>exact rfl;exact rfl;intro _))
      refine bodyQ_r2 (by ((conv=>lhs;whnf)<;>exact rfl)) (by ((conv=>lhs;whnf)<;>exact rfl)) ?_
      exact ⟨_, Ent.mk fun w1 h1 => (h1.none).nil _ _, hbad _ (by rw [hfe, hee]) hck2⟩
    obtain ⟨e2, e1⟩ := mtc_ok7 h hc
    rw [e1, e2] at cm
    cases hmb : mtB (pat p) (xs.getD k ByteArray.empty).data.toList with
    | true =>
      rw [hmb] at cm
      rw [hmb, if_pos rfl] at hfs
      have hss := strs_snoc7 (filK p (xs.take k)) (xs.getD k ByteArray.empty)
      repeat' (first|(apply OK_seq)|(apply thenQ_n)|(apply OK_region)|(apply OKx_gc 28;exact rfl; refine OKx_callV (f := 28) rfl rfl rfl (fun w1 hp1 => cm w1) ?_)|(apply OKx_gb; refine OKx_append1 1 0 rfl rfl rfl rfl rfl (by omega) (by omega) ?_; intro gr cr)|(apply OKx_nilK)|(apply OK_block)|(apply blockQ_n)|(apply blockQ_s)|(apply thenQ_e)|(apply blockQ_e;exact rfl)|(apply thenQ_r)|(apply blockQ_r)|(apply OK_condT;exact rfl)|(apply OK_condF;exact rfl)|(apply OK_skip)|(apply OK_exit)|(apply OK_ret)|(apply OKx_move;(conv=>lhs;whnf)<;>exact rfl)|(apply OKx_assign;(conv=>lhs;whnf)<;>exact rfl)|(apply OKx_ldB;exact rfl;(first | exact at0|exact at1|exact at2|exact at3|exact at4|exact at5|exact at6|exact at7);exact rfl)|(apply OKx_ldR;(conv=>lhs;whnf)<;>exact rfl;(with_reducible assumption))|(apply OKx_len;exact rfl)|(apply OKx_lenR;(conv=>lhs;whnf)<;>exact rfl;(with_reducible assumption))|(apply OKx_lenR2;(conv=>lhs;whnf)<;>exact rfl;(with_reducible assumption))|(apply OKx_lenO;(conv=>lhs;whnf)<;>exact rfl;(first | exact at0|exact at1|exact at2|exact at3|exact at4|exact at5|exact at6|exact at7))|(apply OKx_lss;exact rfl;exact rfl;all_goals (intro _; try (exfalso;omega)))|(apply OKx_gtr;exact rfl;exact rfl;all_goals (intro _; try (exfalso;omega)))|(apply OKx_neq;exact rfl;exact rfl;all_goals (intro _; try (exfalso;omega)))|(apply OKx_idxO;exact rfl;exact rfl;omega)|(apply OKx_idxR;(conv=>lhs;whnf)<;>exact rfl;(with_reducible assumption);exact rfl;omega;intro _ _)|(apply OKx_idxOz;exact rfl;exact rfl;omega;omega)|(apply OKx_idxRz;(conv=>lhs;whnf)<;>exact rfl;(with_reducible assumption);exact rfl;omega;omega;intro _ _)|(apply OKx_inc;exact rfl;exact rfl;omega)|(apply OKx_addN;exact rfl;exact rfl;omega)|(apply OKx_add;exact rfl;exact rfl;omega;omega)|(apply OKx_extract;exact rfl;(conv=>lhs;whnf)<;>exact rfl)|(apply OKx_slit1;(conv=>lhs;whnf)<;>exact rfl;exact rfl;intro _))
      refine ⟨by (repeat' (first | refine agree_upd rfl ?_ | exact agree_over | exact agree_refl _ _ | refine agree_over2 rfl ?_)), mm - 1, _, by omega, Ent.pick [1] rfl, ?_⟩
      exact ⟨k + 1, by omega, hes0 hc, rfl, by rw [hfs, List.length_append, hss] <;> rfl⟩
    | false =>
      rw [hmb] at cm
      rw [hmb, if_neg (by decide)] at hfs
      repeat' (first|(apply OK_seq)|(apply thenQ_n)|(apply OK_region)|(apply OKx_gc 28;exact rfl; refine OKx_callV (f := 28) rfl rfl rfl (fun w1 hp1 => cm w1) ?_)|(apply OKx_nilK)|(apply OK_block)|(apply blockQ_n)|(apply blockQ_s)|(apply thenQ_e)|(apply blockQ_e;exact rfl)|(apply thenQ_r)|(apply blockQ_r)|(apply OK_condT;exact rfl)|(apply OK_condF;exact rfl)|(apply OK_skip)|(apply OK_exit)|(apply OK_ret)|(apply OKx_move;(conv=>lhs;whnf)<;>exact rfl)|(apply OKx_assign;(conv=>lhs;whnf)<;>exact rfl)|(apply OKx_ldB;exact rfl;(first | exact at0|exact at1|exact at2|exact at3|exact at4|exact at5|exact at6|exact at7);exact rfl)|(apply OKx_ldR;(conv=>lhs;whnf)<;>exact rfl;(with_reducible assumption))|(apply OKx_len;exact rfl)|(apply OKx_lenR;(conv=>lhs;whnf)<;>exact rfl;(with_reducible assumption))|(apply OKx_lenR2;(conv=>lhs;whnf)<;>exact rfl;(with_reducible assumption))|(apply OKx_lenO;(conv=>lhs;whnf)<;>exact rfl;(first | exact at0|exact at1|exact at2|exact at3|exact at4|exact at5|exact at6|exact at7))|(apply OKx_lss;exact rfl;exact rfl;all_goals (intro _; try (exfalso;omega)))|(apply OKx_gtr;exact rfl;exact rfl;all_goals (intro _; try (exfalso;omega)))|(apply OKx_neq;exact rfl;exact rfl;all_goals (intro _; try (exfalso;omega)))|(apply OKx_idxO;exact rfl;exact rfl;omega)|(apply OKx_idxR;(conv=>lhs;whnf)<;>exact rfl;(with_reducible assumption);exact rfl;omega;intro _ _)|(apply OKx_idxOz;exact rfl;exact rfl;omega;omega)|(apply OKx_idxRz;(conv=>lhs;whnf)<;>exact rfl;(with_reducible assumption);exact rfl;omega;omega;intro _ _)|(apply OKx_inc;exact rfl;exact rfl;omega)|(apply OKx_addN;exact rfl;exact rfl;omega)|(apply OKx_add;exact rfl;exact rfl;omega;omega)|(apply OKx_extract;exact rfl;(conv=>lhs;whnf)<;>exact rfl)|(apply OKx_slit1;(conv=>lhs;whnf)<;>exact rfl;exact rfl;intro _))
      refine ⟨by (repeat' (first | refine agree_upd rfl ?_ | exact agree_over | exact agree_refl _ _ | refine agree_over2 rfl ?_)), mm - 1, _, by omega, Ent.refl _ _, ?_⟩
      exact ⟨k + 1, by omega, hes0 hc, rfl, by rw [hfs] <;> rfl⟩
  · obtain rfl : k = xs.length := by omega
    rw [List.take_length] at herr ⊢
    repeat' (first|(apply OK_seq)|(apply thenQ_n)|(apply OK_region)|(apply OKx_nilK)|(apply OK_block)|(apply blockQ_n)|(apply blockQ_s)|(apply thenQ_e)|(apply blockQ_e;exact rfl)|(apply thenQ_r)|(apply blockQ_r)|(apply OK_condT;exact rfl)|(apply OK_condF;exact rfl)|(apply OK_skip)|(apply OK_exit)|(apply OK_ret)|(apply OKx_move;(conv=>lhs;whnf)<;>exact rfl)|(apply OKx_assign;(conv=>lhs;whnf)<;>exact rfl)|(apply OKx_ldB;exact rfl;(first | exact at0|exact at1|exact at2|exact at3|exact at4|exact at5|exact at6|exact at7);exact rfl)|(apply OKx_ldR;(conv=>lhs;whnf)<;>exact rfl;(with_reducible assumption))|(apply OKx_len;exact rfl)|(apply OKx_lenR;(conv=>lhs;whnf)<;>exact rfl;(with_reducible assumption))|(apply OKx_lenR2;(conv=>lhs;whnf)<;>exact rfl;(with_reducible assumption))|(apply OKx_lenO;(conv=>lhs;whnf)<;>exact rfl;(first | exact at0|exact at1|exact at2|exact at3|exact at4|exact at5|exact at6|exact at7))|(apply OKx_lss;exact rfl;exact rfl;all_goals (intro _; try (exfalso;omega)))|(apply OKx_gtr;exact rfl;exact rfl;all_goals (intro _; try (exfalso;omega)))|(apply OKx_neq;exact rfl;exact rfl;all_goals (intro _; try (exfalso;omega)))|(apply OKx_idxO;exact rfl;exact rfl;omega)|(apply OKx_idxR;(conv=>lhs;whnf)<;>exact rfl;(with_reducible assumption);exact rfl;omega;intro _ _)|(apply OKx_idxOz;exact rfl;exact rfl;omega;omega)|(apply OKx_idxRz;(conv=>lhs;whnf)<;>exact rfl;(with_reducible assumption);exact rfl;omega;omega;intro _ _)|(apply OKx_inc;exact rfl;exact rfl;omega)|(apply OKx_addN;exact rfl;exact rfl;omega)|(apply OKx_add;exact rfl;exact rfl;omega;omega)|(apply OKx_extract;exact rfl;(conv=>lhs;whnf)<;>exact rfl)|(apply OKx_slit1;(conv=>lhs;whnf)<;>exact rfl;exact rfl;intro _))
    refine bodyQ_r2 (by ((conv=>lhs;whnf)<;>exact rfl)) (by ((conv=>lhs;whnf)<;>exact rfl)) ?_
    exact ⟨_, Ent.pick [0] rfl, _, by rw [hfe, herr] <;> rfl, by unfold filL; rw [if_neg (by rw [hfe, herr]; exact fun hh => hh rfl)]; rfl⟩
end Go.Proofs.Ytbooccpfdekaiaa
namespace Go.Proofs.Ytbooccpfdekaiaa
open Go.RowKit
def lexL : List UInt8 → List UInt8 → Prop
  | [], [] => False
  | _ :: _, [] => False
  | [], _ :: _ => True
  | a :: r, b :: s => a.toNat < b.toNat ∨ (a = b ∧ lexL r s)
theorem lexL_nil : ∀ u, ¬ lexL u []
  | [] => fun h => h
  | _ :: _ => fun h => h
theorem lexL_irr : ∀ u, ¬ lexL u u
  | [] => fun h => h
  | a :: r => fun h => by
    rcases h with h | ⟨_, h⟩
    · omega
    · exact lexL_irr r h
theorem lexL_trans : ∀ {u v w : List UInt8}, lexL u v → lexL v w → lexL u w
  | _, [], _, h, _ => absurd h (lexL_nil _)
  | _, _ :: _, [], _, h => absurd h (lexL_nil _)
  | [], _ :: _, _ :: _, _, _ => trivial
  | a :: u, b :: v, c :: w, h, k => by
    rcases h with h | ⟨rfl, h⟩
    · rcases k with k | ⟨rfl, k⟩
      · exact .inl (by omega)
      · exact .inl h
    · rcases k with k | ⟨rfl, k⟩
      · exact .inl k
      · exact .inr ⟨rfl, lexL_trans h k⟩
theorem lexL_app {c d : UInt8} : ∀ {u v : List UInt8}, u.length = v.length → lexL u v → lexL (u ++ [c]) (v ++ [d])
  | _, [], _, h => absurd h (lexL_nil _)
  | [], _ :: _, h, _ => by simp at h
  | a :: u, b :: v, hl, h => by
    rcases h with h | ⟨rfl, h⟩
    · exact .inl h
    · exact .inr ⟨rfl, lexL_app (by simpa using hl) h⟩
theorem lexL_last {c d : UInt8} (h : c.toNat < d.toNat) : ∀ u : List UInt8, lexL (u ++ [c]) (u ++ [d])
  | [] => .inl h
  | _ :: u => .inr ⟨rfl, lexL_last h u⟩
def ltW (u w : List UInt8) : Prop := u.length < w.length ∨ (u.length = w.length ∧ lexL u w)
theorem ltW_irr (u : List UInt8) : ¬ ltW u u := fun h => h.elim (fun h => Nat.lt_irrefl _ h) (fun h => lexL_irr u h.2)
theorem ltW_trans {u v w : List UInt8} (h : ltW u v) (k : ltW v w) : ltW u w := by
  rcases h with h | ⟨h, h'⟩
  · rcases k with k | ⟨k, _⟩
    · exact .inl (by omega)
    · exact .inl (by omega)
  · rcases k with k | ⟨k, k'⟩
    · exact .inl (by omega)
    · exact .inr ⟨by omega, lexL_trans h' k'⟩
theorem ltW_app {u v : List UInt8} (c d : UInt8) (h : ltW u v) : ltW (u ++ [c]) (v ++ [d]) := by
  rcases h with h | ⟨h, h'⟩
  · exact .inl (by simpa using h)
  · exact .inr ⟨by simpa using h, lexL_app h h'⟩
theorem ltW_last {c d : UInt8} (h : c.toNat < d.toNat) (u : List UInt8) : ltW (u ++ [c]) (u ++ [d]) := .inr ⟨by simp, lexL_last h u⟩
theorem ltW_snoc (u : List UInt8) (c : UInt8) : ltW u (u ++ [c]) := .inl (by simp)
theorem ltW_nil (u : List UInt8) (c : UInt8) : ltW [] (u ++ [c]) := .inl (by simp)
def leW (u w : List UInt8) : Prop := u = w ∨ ltW u w
theorem leW_trans {u v w : List UInt8} (h : leW u v) (k : leW v w) : leW u w := by
  rcases h with rfl | h
  · exact k
  · rcases k with rfl | k
    · exact .inr h
    · exact .inr (ltW_trans h k)
theorem leW_lt {u v w : List UInt8} (h : leW u v) (k : ltW v w) : ltW u w := by
  rcases h with rfl | h
  · exact k
  · exact ltW_trans h k
theorem leW_app {u v : List UInt8} (c : UInt8) (h : leW u v) : leW (u ++ [c]) (v ++ [c]) := by
  rcases h with rfl | h
  · exact .inl rfl
  · exact .inr (ltW_app c c h)
theorem leW_len {u v : List UInt8} (h : leW u v) : u.length ≤ v.length := by
  rcases h with rfl | h | ⟨h, _⟩ <;> omega
theorem nxtK_zero (l : List Elc) (c : UInt8) : ∀ k, nxtK l 0 c k = 0
  | 0 => rfl
  | k + 1 => by
    rw [nxtK_succ, nxtK_zero l c k]
    unfold nxtE
    rw [Nat.zero_testBit, if_neg (by decide)]
theorem runM_ne {l : List Elc} {w : List UInt8} {c : UInt8} (h : runM l (w ++ [c]) ≠ 0) : runM l w ≠ 0 := fun e => h (by
  rw [runM_snoc, e]
  exact nxtK_zero l c _)
theorem mtB_ne {l : List Elc} {w : List UInt8} (h : mtB l w = true) : runM l w ≠ 0 := fun e => by
  unfold mtB at h
  rw [e, Nat.zero_testBit] at h
  cases h
def sameS (a b : List Elc) (u v : List UInt8) : Prop := runM a u = runM a v ∧ runM b u = runM b v
structure Bfs (a b : List Elc) (most : Nat) (Q : List (List UInt8)) (i c : Nat) : Prop where
  nil : Q[0]? = some []
  words : ∀ w ∈ Q, (∀ d ∈ w, chrB d = true) ∧ w.length ≤ most
  sorted : Q.Pairwise ltW
  diff : Q.Pairwise (fun u v => ¬ sameS a b u v)
  parent : ∀ v ∈ Q, v = [] ∨ ∃ j x d, Q[j]? = some x ∧ v = x ++ [d] ∧ (j < i ∨ (j = i ∧ d.toNat < c))
  done : ∀ j x d, Q[j]? = some x → (j < i ∨ (j = i ∧ d.toNat < c)) → x.length < most → chrB d = true → runM a (x ++ [d]) ≠ 0 → runM b (x ++ [d]) ≠ 0 → ∃ v ∈ Q, sameS a b v (x ++ [d]) ∧ leW v (x ++ [d])
  noacc : ∀ j x, Q[j]? = some x → j < i → ¬ (mtB a x = true ∧ mtB b x = true)
section
variable {a b : List Elc} {most : Nat} {Q : List (List UInt8)} {i c : Nat}
theorem bfs_0 (a b : List Elc) (most : Nat) : Bfs a b most [[]] 0 0 where
  nil := rfl
  words := fun w hw => by
    rw [List.mem_singleton] at hw
    subst hw
    exact ⟨fun d hd => absurd hd List.not_mem_nil, Nat.zero_le _⟩
  sorted := List.pairwise_singleton _ _
  diff := List.pairwise_singleton _ _
  parent := fun v hv => .inl (List.mem_singleton.1 hv)
  done := fun j x d _ h => by omega
  noacc := fun j x _ h => absurd h (Nat.not_lt_zero _)
theorem pw_at {α : Type} {R : α → α → Prop} : ∀ {l : List α}, l.Pairwise R → ∀ {j k : Nat} {x y : α}, l[j]? = some x → l[k]? = some y → j < k → R x y := by
  intro l h j k x y hj hk hjk
  obtain ⟨h1, rfl⟩ := List.getElem?_eq_some_iff.1 hj
  obtain ⟨h2, rfl⟩ := List.getElem?_eq_some_iff.1 hk
  exact List.pairwise_iff_getElem.1 h j k h1 h2 hjk
theorem Bfs.behind (h : Bfs a b most Q i c) {x : List UInt8} (hx : Q[i]? = some x) {d : UInt8} (hd : d.toNat = c) : ∀ v ∈ Q, ltW v (x ++ [d]) := by
  intro v hv
  rcases h.parent v hv with rfl | ⟨j, y, e, hy, rfl, hj | ⟨rfl, he⟩⟩
  · exact ltW_nil x d
  · exact ltW_app e d (pw_at h.sorted hy hx hj)
  · rw [hy] at hx
    cases hx
    exact ltW_last (by omega) _
theorem Bfs.step (h : Bfs a b most Q i c) {x : List UInt8} (hx : Q[i]? = some x) {d : UInt8} (hd : d.toNat = c)
    (hk : x.length < most → chrB d = true → runM a (x ++ [d]) ≠ 0 → runM b (x ++ [d]) ≠ 0 → ∃ v ∈ Q, sameS a b v (x ++ [d])) : Bfs a b most Q i (c + 1) where
  nil := h.nil
  words := h.words
  sorted := h.sorted
  diff := h.diff
  parent := fun v hv => by
    rcases h.parent v hv with e | ⟨j, y, e, hy, hv', hj⟩
    · exact .inl e
    · exact .inr ⟨j, y, e, hy, hv', by omega⟩
  done := fun j y e hy hj h1 h2 h3 h4 => by
    by_cases hc : j = i ∧ e.toNat = c
    · obtain ⟨rfl, he⟩ := hc
      rw [hx] at hy
      cases hy
      have : e = d := UInt8.toNat_inj.1 (by omega)
      subst this
      obtain ⟨v, hv, hs⟩ := hk h1 h2 h3 h4
      exact ⟨v, hv, hs, .inr (h.behind hx hd v hv)⟩
    · exact h.done j y e hy (by omega) h1 h2 h3 h4
  noacc := h.noacc
theorem Bfs.add (h : Bfs a b most Q i c) {x : List UInt8} (hx : Q[i]? = some x) {d : UInt8} (hd : d.toNat = c) (hl : x.length < most) (hc : chrB d = true)
    (hn : ∀ v ∈ Q, ¬ sameS a b v (x ++ [d])) : Bfs a b most (Q ++ [x ++ [d]]) i (c + 1) where
  nil := by
    have := (List.getElem?_eq_some_iff.1 h.nil).1
    rw [List.getElem?_append_left this]; exact h.nil
  words := fun w hw => by
    rcases List.mem_append.1 hw with hw | hw
    · exact h.words w hw
    · rw [List.mem_singleton] at hw
      subst hw
      refine ⟨fun e he => ?_, by rw [List.length_append, List.length_singleton];omega⟩
      rcases List.mem_append.1 he with he | he
      · exact (h.words x (List.mem_of_getElem? hx)).1 e he
      · rw [List.mem_singleton] at he; subst he; exact hc
  sorted := List.pairwise_append.2 ⟨h.sorted, List.pairwise_singleton _ _, fun v hv w hw => by
    rw [List.mem_singleton] at hw
    subst hw
    exact h.behind hx hd v hv⟩
  diff := List.pairwise_append.2 ⟨h.diff, List.pairwise_singleton _ _, fun v hv w hw => by
    rw [List.mem_singleton] at hw
    subst hw
    exact hn v hv⟩
  parent := fun v hv => by
    have hi := (List.getElem?_eq_some_iff.1 hx).1
    rcases List.mem_append.1 hv with hv | hv
    · rcases h.parent v hv with e | ⟨j, y, e, hy, hv', hj⟩
      · exact .inl e
      · exact .inr ⟨j, y, e, by rw [List.getElem?_append_left (List.getElem?_eq_some_iff.1 hy).1]; exact hy, hv', by omega⟩
    · rw [List.mem_singleton] at hv
      exact .inr ⟨i, x, d, by rw [List.getElem?_append_left hi]; exact hx, hv, by omega⟩
  done := fun j y e hy hj h1 h2 h3 h4 => by
    have hi := (List.getElem?_eq_some_iff.1 hx).1
    rw [List.getElem?_append_left (by omega)] at hy
    by_cases hce : j = i ∧ e.toNat = c
    · obtain ⟨rfl, he⟩ := hce
      rw [hx] at hy
      cases hy
      have : e = d := UInt8.toNat_inj.1 (by omega)
      subst this
      exact ⟨_, List.mem_append_right _ (List.mem_singleton.2 rfl), ⟨rfl, rfl⟩, .inl rfl⟩
    · obtain ⟨v, hv, hs⟩ := h.done j y e hy (by omega) h1 h2 h3 h4
      exact ⟨v, List.mem_append_left _ hv, hs⟩
  noacc := fun j y hy hj => by
    have hi := (List.getElem?_eq_some_iff.1 hx).1
    rw [List.getElem?_append_left (by omega)] at hy
    exact h.noacc j y hy hj
theorem Bfs.next (h : Bfs a b most Q i c) (hc : c = 256 ∨ ∀ x, Q[i]? = some x → ¬ x.length < most) (hn : ∀ x, Q[i]? = some x → ¬ (mtB a x = true ∧ mtB b x = true)) : Bfs a b most Q (i + 1) 0 where
  nil := h.nil
  words := h.words
  sorted := h.sorted
  diff := h.diff
  parent := fun v hv => by
    rcases h.parent v hv with e | ⟨j, y, e, hy, hv', hj⟩
    · exact .inl e
    · exact .inr ⟨j, y, e, hy, hv', by omega⟩
  done := fun j y e hy hj h1 h2 h3 h4 => by
    have he := e.toNat_lt
    by_cases hji : j = i
    · subst hji
      rcases hc with rfl | hc
      · exact h.done j y e hy (.inr ⟨rfl, he⟩) h1 h2 h3 h4
      · exact absurd h1 (hc y hy)
    · exact h.done j y e hy (by omega) h1 h2 h3 h4
  noacc := fun j y hy hj => by
    by_cases hji : j = i
    · subst hji; exact hn y hy
    · exact h.noacc j y hy (by omega)
theorem Bfs.reach (h : Bfs a b most Q i 0) : ∀ u : List UInt8, (∀ d ∈ u, chrB d = true) → u.length ≤ most → runM a u ≠ 0 → runM b u ≠ 0 → (∀ (k : Nat) (v : List UInt8), Q[k]? = some v → leW v u → k < i) → ∃ (k : Nat) (v : List UInt8), Q[k]? = some v ∧ sameS a b v u ∧ leW v u := by
  intro u
  induction u using snocInd7 with
  | h0 =>
    intro _ _ _ _ _
    exact ⟨0, [], h.nil, ⟨rfl, rfl⟩, .inl rfl⟩
  | hs u d ih =>
    intro h1 h2 h3 h4 h5
    rw [List.length_append, List.length_singleton] at h2
    have hsn := ltW_snoc u d
    obtain ⟨k, v, hv, hs, hle⟩ := ih (fun e he => h1 e (List.mem_append_left _ he)) (by omega) (runM_ne h3) (runM_ne h4) (fun k v hk hl => h5 k v hk (leW_trans hl (.inr hsn)))
    have hk := h5 k v hv (leW_trans hle (.inr hsn))
    have hlv := leW_len hle
    have e1 : runM a (v ++ [d]) = runM a (u ++ [d]) := by rw [runM_snoc, runM_snoc, hs.1]
    have e2 : runM b (v ++ [d]) = runM b (u ++ [d]) := by rw [runM_snoc, runM_snoc, hs.2]
    obtain ⟨v2, hv2, hs2, hle2⟩ := h.done k v d hv (.inl hk) (by omega) (h1 d (List.mem_append_right _ (List.mem_singleton.2 rfl))) (by rw [e1]; exact h3) (by rw [e2]; exact h4)
    obtain ⟨k2, hk2⟩ := List.getElem?_of_mem hv2
    exact ⟨k2, v2, hk2, ⟨hs2.1.trans e1, hs2.2.trans e2⟩, leW_trans hle2 (leW_app d hle)⟩
def Good (a b : List Elc) (most : Nat) (u : List UInt8) : Prop := (∀ d ∈ u, chrB d = true) ∧ u.length ≤ most ∧ mtB a u = true ∧ mtB b u = true
def First (a b : List Elc) (most : Nat) (w : List UInt8) : Prop := Good a b most w ∧ ∀ u, Good a b most u → ¬ ltW u w
theorem same_acc {u v : List UInt8} (h : sameS a b u v) : mtB a u = mtB a v ∧ mtB b u = mtB b v := by
  unfold mtB
  rw [h.1, h.2]
  exact ⟨rfl, rfl⟩
theorem Bfs.found (h : Bfs a b most Q i 0) {w : List UInt8} (hw : Q[i]? = some w) (ha : mtB a w = true) (hb : mtB b w = true) : First a b most w := by
  have hm := h.words w (List.mem_of_getElem? hw)
  refine ⟨⟨hm.1, hm.2, ha, hb⟩, fun u hu hlt => ?_⟩
  have key : ∀ (k : Nat) (v : List UInt8), Q[k]? = some v → leW v u → k < i := fun k v hk hl => by
    have hvw := leW_lt hl hlt
    refine Decidable.byContradiction fun hki => ?_
    by_cases he : k = i
    · subst he
      rw [hk] at hw
      cases hw
      exact ltW_irr _ hvw
    · exact ltW_irr _ (ltW_trans hvw (pw_at h.sorted hw hk (by omega)))
  obtain ⟨k, v, hv, hs, hle⟩ := h.reach u hu.1 hu.2.1 (mtB_ne hu.2.2.1) (mtB_ne hu.2.2.2) key
  have hk := key k v hv hle
  have := same_acc hs
  exact h.noacc k v hv hk ⟨by rw [this.1]; exact hu.2.2.1, by rw [this.2]; exact hu.2.2.2⟩
theorem Bfs.none (h : Bfs a b most Q i 0) (hi : Q.length ≤ i) : ∀ u, ¬ Good a b most u := fun u hu => by
  have key : ∀ (k : Nat) (v : List UInt8), Q[k]? = some v → leW v u → k < i := fun k v hk _ => by
    have := (List.getElem?_eq_some_iff.1 hk).1
    omega
  obtain ⟨k, v, hv, hs, hle⟩ := h.reach u hu.1 hu.2.1 (mtB_ne hu.2.2.1) (mtB_ne hu.2.2.2) key
  have hk := key k v hv hle
  have := same_acc hs
  exact h.noacc k v hv hk ⟨by rw [this.1]; exact hu.2.2.1, by rw [this.2]; exact hu.2.2.2⟩
theorem Bfs.size (h : Bfs a b most Q i c) : Q.length ≤ 2 ^ (a.length + 1) * 2 ^ (b.length + 1) := by
  have hn : (Q.map fun w => runM a w * 2 ^ (b.length + 1) + runM b w).Nodup := by
    refine List.pairwise_map.2 (h.diff.imp fun {u v} hd e => hd ?_)
    have hu := runM_lt b u
    have hv := runM_lt b v
    have hp : 0 < 2 ^ (b.length + 1) := Nat.pow_pos (by decide)
    have e1 : (runM a u * 2 ^ (b.length + 1) + runM b u) / 2 ^ (b.length + 1) = (runM a v * 2 ^ (b.length + 1) + runM b v) / 2 ^ (b.length + 1) := by rw [e]
    have e2 : (runM a u * 2 ^ (b.length + 1) + runM b u) % 2 ^ (b.length + 1) = (runM a v * 2 ^ (b.length + 1) + runM b v) % 2 ^ (b.length + 1) := by rw [e]
    rw [Nat.mul_comm, Nat.mul_add_div hp, Nat.div_eq_of_lt hu, Nat.add_zero, Nat.mul_comm, Nat.mul_add_div hp, Nat.div_eq_of_lt hv, Nat.add_zero] at e1
    rw [Nat.mul_comm, Nat.mul_add_mod, Nat.mod_eq_of_lt hu, Nat.mul_comm, Nat.mul_add_mod, Nat.mod_eq_of_lt hv] at e2
    exact ⟨e1, e2⟩
  have hsub : (Q.map fun w => runM a w * 2 ^ (b.length + 1) + runM b w) ⊆ List.range (2 ^ (a.length + 1) * 2 ^ (b.length + 1)) := fun x hx => by
    obtain ⟨w, _, rfl⟩ := List.mem_map.1 hx
    have h1 := runM_lt a w
    have h2 := runM_lt b w
    rw [List.mem_range]
    have h3 : (runM a w + 1) * 2 ^ (b.length + 1) ≤ 2 ^ (a.length + 1) * 2 ^ (b.length + 1) := Nat.mul_le_mul_right _ h1
    rw [Nat.succ_mul] at h3
    omega
  have := hn.length_le_of_subset hsub
  rwa [List.length_map, List.length_range] at this
end
end Go.Proofs.Ytbooccpfdekaiaa
namespace Go.Proofs.Ytbooccpfdekaiaa
open Go.RowKit
theorem exM0 : mtcB [100, 101, 42, 115] [100, 101, 117, 115] = true ∧ mtcE [100, 101, 42, 115] [100, 101, 117, 115] = 0 := by constructor <;> kernel_rfl
theorem exM1 : mtcB [100, 101, 42, 115] [100, 101, 117, 109] = false ∧ mtcE [100, 101, 42, 115] [100, 101, 117, 109] = 0 := by constructor <;> kernel_rfl
theorem exLit : litW [91, 100, 93, 101, 117, 115] = [100, 101, 117, 115] ∧ litB [91, 100, 93, 101, 117, 115] = true ∧ litE [91, 100, 93, 101, 117, 115] = 0 := by refine ⟨?_, ?_, ?_⟩ <;> kernel_rfl
theorem exBnd : bndR [97, 63, 91, 98, 99, 93, 42] = (3, -1, 0) := by kernel_rfl
theorem exPa : pat [97, 42] = [some (elHas [97]), none] := by kernel_rfl
theorem exPb : pat [42, 98] = [none, some (elHas [98])] := by kernel_rfl
theorem exEa : patE [97, 42] = 0 := by kernel_rfl
theorem exEb : patE [42, 98] = 0 := by kernel_rfl
theorem exHas (c b : UInt8) (h1 : c ≠ 63) (h2 : c ≠ 42) (h3 : c ≠ 91) : elHas [c] b = true ↔ b = c := by
  unfold elHas
  dsimp only
  rw [if_neg h1, if_neg h2, if_neg h3, decide_eq_true_eq]
theorem exGood : Good (pat [97, 42]) (pat [42, 98]) 8 [97, 98] := by
  refine ⟨fun d hd => ?_, by decide, by kernel_rfl, by kernel_rfl⟩
  simp only [List.mem_cons, List.not_mem_nil, or_false] at hd
  rcases hd with rfl | rfl <;> kernel_rfl
theorem exFirst {w : List UInt8} (h : First (pat [97, 42]) (pat [42, 98]) 8 w) : w = [97, 98] := by
  obtain ⟨⟨_, _, h1, h2⟩, h3⟩ := h
  have hn := h3 _ exGood
  rw [mtB_iff, exPa, Mt_set] at h1
  rw [mtB_iff, exPb, Mt_star] at h2
  obtain ⟨c, u, rfl, hc, _⟩ := h1
  obtain ⟨s, t, hst, ht⟩ := h2
  rw [Mt_one_set] at ht
  obtain ⟨b, rfl, hb⟩ := ht
  rw [exHas _ _ (by decide) (by decide) (by decide)] at hc hb
  subst hc hb
  match s, u, hst with
  | [], u, hst => cases hst
  | [_], u, hst => cases hst; rfl
  | _ :: _ :: s, u, hst => exact absurd (.inl (by rw [hst]; simp)) hn
end Go.Proofs.Ytbooccpfdekaiaa
