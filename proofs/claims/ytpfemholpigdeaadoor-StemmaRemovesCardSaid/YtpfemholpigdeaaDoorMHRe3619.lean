/-
  Part 19 of the proof: Ss36. No statement of the seat is proved here.
-/
import Derived.Test.YtpfemholpigdeaaDoorMHRe3618
namespace Go.Proofs.YtpfemholpigdeaaDoor
open Go.RowKit
theorem strs_len (xs : List ByteArray) : (strs xs).length = xs.length := List.length_map _
theorem strs_one (xs : List ByteArray) : ∀ v ∈ strs xs, v.oneCell' = true := by
  intro v hv
  obtain ⟨x, _, rfl⟩ := List.mem_map.1 hv
  rfl
theorem SatL.capsT {P : Program} {f : FuncId} {args : List Value} {w0 : World} {L : List Res} {R : Value → List Res → Prop} (h : SatL P f args w0 L R) :
    SatL P f args w0 L (fun u L' => R u L' ∧ ∀ e sz g n c xs, Res.row e sz (.slice (some ⟨g, 0, none⟩) n c) n xs ∈ L' → n ≤ c) :=
  ⟨h.enters, fun w hp => (h.calls w hp).mono fun e w' ⟨v, L', h1, h2, h3⟩ => ⟨v, L', h1, h2, h3, fun e sz g n c xs hm => by
    have ho : w'.ownsRow w0.heap.size e sz (.slice (some ⟨g, 0, none⟩) n c) n xs := h2.ok _ hm
    rcases ho.2 with ⟨h0, _⟩ | ⟨g', cap, cur, h0, _, _, h4, _⟩
    · cases h0
    · cases h0; exact h4⟩⟩
set_option maxRecDepth 100000 in
set_option maxHeartbeats 4000000 in
theorem clone_str_sat (v : Value) (N : Nat) (xs : List ByteArray) (w : World) (h : Strs w v xs) (hl : xs.length = N) (h0 : 0 < N) (h8 : N ≤ 1000000) :
    Sat Tryd.prog 25 [v] w (fun u L => ∃ g c, N ≤ c ∧ u = .slice (some ⟨g, 0, none⟩) N c ∧ L = [.row 9 1 u N (strs xs)]) := by
  have hs := h.sl
  obtain ⟨_, ⟨a, cap, rfl, hc⟩⟩ := hs
  rcases hc with hc | ⟨b, off, rfl, hc⟩
  · omega
  have hsl := strs_len xs
  subst hl
  have key : Sat Tryd.prog 25 [.slice (some ⟨b, off, none⟩) xs.length cap] w (fun u L => ∃ g c, u = .slice (some ⟨g, 0, none⟩) xs.length c ∧ L = [.row 9 1 u xs.length (strs xs)]) := by
    refine SatL.of 8 [2] Tryd.func25 (by kernel_rfl) (by kernel_rfl) rfl rfl rfl rfl ?_
    repeat' (first|(apply OK_seq)|(apply thenQ_n)|(apply OK_region)|(apply OKx_eqNilF; (focus exact rfl); (focus exact rfl))|(apply OKx_gb; refine OKx_append 0 (M := xs.length) (ys := strs xs) rfl rfl rfl (by omega) (fun w1 hp j u hj => ?_) (strs_one xs) (by omega) (by omega) h0 ?_; rotate_left; intro g c)|(apply OKx_nilK)|(apply OK_block)|(apply blockQ_n)|(apply blockQ_s)|(apply thenQ_e)|(apply blockQ_e;exact rfl)|(apply thenQ_r)|(apply blockQ_r)|(apply OK_condT;exact rfl)|(apply OK_condF;exact rfl)|(apply OK_skip)|(apply OK_exit)|(apply OK_ret)|(apply OKx_move;(conv=>lhs;whnf)<;>exact rfl)|(apply OKx_assign;(conv=>lhs;whnf)<;>exact rfl)|(apply OKx_eql;exact rfl;exact rfl;all_goals (intro _; try (exfalso;omega)))|(apply OKx_slit0;intro _))
    · refine bodyQ_r1 (by ((conv=>lhs;whnf)<;>exact rfl)) ?_
      refine ⟨_, Ent.refl _ _, g, c, by rw [Nat.zero_add], ?_⟩
      rw [Nat.zero_add]
      rfl
    · have hj2 : j < (strs xs).length := (List.getElem?_eq_some_iff.1 hj).1
      have h2 := hc j (by omega)
      rw [hp.below.cell (World.block_lt_of_cell? w _ h2), h2]
      simp only [strs, List.getElem?_map] at hj
      rw [List.getElem?_eq_getElem (by omega)] at hj
      rw [List.getD_eq_getElem?_getD, List.getElem?_eq_getElem (by omega)]
      exact hj
  refine (key.capsT).mono ?_
  rintro _ _ ⟨⟨g, c, rfl, rfl⟩, h⟩
  exact ⟨g, c, h _ _ _ _ _ _ List.mem_cons_self, rfl, rfl⟩
theorem erase_one (vs : List Value) (N i : Nat) (hN : vs.length = N) (hi : i < N) (zs : List Value) (o : Nat) (ho : o = N - 1) (hz : zs.length = 1) :
    (lays (lays vs (i * 1) (vs.drop (i + 1))) o zs).take ((N - 1) * 1) = vs.eraseIdx i := by
  subst ho; subst hN
  have hd : (vs.drop (i + 1)).length = vs.length - (i + 1) := List.length_drop
  have hX : (lays vs (i * 1) (vs.drop (i + 1))).length = vs.length := lays_len _ _ _
  rw [lays_eq zs _ _ (by rw [hX, hz];omega), List.append_assoc, List.take_left' (by rw [List.length_take, hX];omega), lays_eq _ _ _ (by rw [hd];omega), Nat.mul_one, List.take_left' (by rw [List.length_append, List.length_take, hd];omega), List.eraseIdx_eq_take_drop_succ]
set_option maxRecDepth 100000 in
set_option maxHeartbeats 4000000 in
theorem delete_str_sat (xs : List ByteArray) (i g cap : Nat) (Z : List Res) (w : World) (hi : i < xs.length) (hcap : xs.length ≤ cap) (h8 : xs.length ≤ 1000000) :
    SatL Tryd.prog 24 [.slice (some ⟨g, 0, none⟩) xs.length cap, .int .i64 (i : Int), .int .i64 ((i + 1 : Nat) : Int)] w (.row 9 1 (.slice (some ⟨g, 0, none⟩) xs.length cap) xs.length (strs xs) :: Z)
      (fun u L => u = .slice (some ⟨g, 0, none⟩) (xs.eraseIdx i).length cap ∧ L = .row 9 1 u (xs.eraseIdx i).length (strs (xs.eraseIdx i)) :: Z) := by
  have hl := strs_len xs
  have hd := strs_len (xs.drop (i + 1))
  rw [List.length_drop] at hd
  have he : (xs.eraseIdx i).length = xs.length - 1 := List.length_eraseIdx_of_lt hi
  have hdr : strs (xs.drop (i + 1)) = (strs xs).drop (i + 1) := List.map_drop
  have her : strs (xs.eraseIdx i) = (strs xs).eraseIdx i := by
    rw [List.eraseIdx_eq_take_drop_succ, List.eraseIdx_eq_take_drop_succ]
    simp [strs]
  refine SatL.of 33 [6] Tryd.func24 (by kernel_rfl) (by kernel_rfl) rfl rfl rfl rfl ?_
  repeat' (first|(apply OK_seq)|(apply thenQ_n)|(apply OK_region)|(refine OKx_slLHM rfl rfl rfl rfl (by omega) (by omega) (by omega) ?_;intro _) | refine OKx_slH rfl rfl (by omega) ?_|(refine OKx_slL (l := i + 1) rfl rfl (by omega) ?_; intro o ho)|(apply OKx_gb; refine OKx_appRoom 0 (N := xs.length) (M := xs.length - (i + 1)) (ys := strs (xs.drop (i + 1))) rfl rfl rfl (by omega) (fun w1 hp j u hj => ?_) (strs_one _) (by omega) (by omega) ?_; rotate_left)|(refine OKx_slLH (l := i + (xs.length - (i + 1))) rfl rfl rfl (by omega) (by omega) ?_; intro o2 ho2)|(refine OKx_clear 0 (N := xs.length) rfl rfl (inferInstance : TOne Tryd.prog 9 _).zero (by decide) (by omega) (by have := ho2 (by omega);omega) ?_; intro zs hzs)|(refine OK_rid 5 ?_; refine OK_mix [] [0, 1, 2, 3, 4, 5] [] [6, 7] [] (id := 5) (by kernel_rfl) (by kernel_rfl) rfl (Ent.nil) (by ((try simp only [pickO]) <;> exact rfl)) (by ((try simp only [pickO, nthO, List.cons_append, List.nil_append]) <;> exact rfl)) (by ((try simp only [pickO]) <;> exact rfl)) (by ((try simp only [pickO, nthO, List.cons_append, List.nil_append]) <;> exact rfl)) ?_)|(apply OKx_nilK)|(apply OK_block)|(apply blockQ_n)|(apply blockQ_s)|(apply thenQ_e)|(apply blockQ_e;exact rfl)|(apply thenQ_r)|(apply blockQ_r)|(apply OK_condT;exact rfl)|(apply OK_condF;exact rfl)|(apply OK_skip)|(apply OK_exit)|(apply OK_ret)|(apply OKx_move;(conv=>lhs;whnf)<;>exact rfl)|(apply OKx_assign;(conv=>lhs;whnf)<;>exact rfl)|(apply OKx_len;exact rfl)|(apply OKx_lenR;(conv=>lhs;whnf)<;>exact rfl;(with_reducible assumption))|(apply OKx_lenR2;(conv=>lhs;whnf)<;>exact rfl;(with_reducible assumption))|(apply OKx_lenO;(conv=>lhs;whnf)<;>exact rfl;(first | exact at0|exact at1|exact at2|exact at3|exact at4|exact at5|exact at6|exact at7))|(apply OKx_eql;exact rfl;exact rfl;all_goals (intro _; try (exfalso;omega))))
  · refine bodyQ_r1 (by ((conv=>lhs;whnf)<;>exact rfl)) ?_
    refine ⟨_, Ent.cut 0 rfl (xs.length - 1) (by omega), by rw [he, show i + (xs.length - (i + 1)) = xs.length - 1 by omega], ?_⟩
    have h3 := erase_one (strs xs) xs.length i hl hi zs o2 (by have := ho2 (by omega);omega) (by omega)
    rw [show i + (xs.length - (i + 1)) = xs.length - 1 by omega]
    show (Res.row 9 1 _ (xs.length - 1) (List.take ((xs.length - 1) * 1) _) :: Z) = (Res.row 9 1 _ (xs.eraseIdx i).length (strs (xs.eraseIdx i)) :: Z)
    rw [her, he, ← h3, hdr]
  · have hj2 : j < xs.length - (i + 1) := by rw [← hd]; exact (List.getElem?_eq_some_iff.1 hj).1
    have ho' := ho (by omega)
    rw [(hp.rowAt 0 rfl).1 _ (by omega), ho', ← hj, hdr, List.getElem?_drop]
    congr 1
    omega
set_option maxRecDepth 100000 in
set_option maxHeartbeats 4000000 in
theorem equalSt_sat (v u : Value) (xs ys : List ByteArray) (w : World) (h : Strs w v xs) (k : Strs w u ys) : SatV Tryd.prog 23 [v, u] w (.bool (decide (xs = ys))) := by
  have hv := h.sl
  have hvb := hv.bound
  have hu := k.sl
  have hub := hu.bound
  by_cases hl : xs.length = ys.length
  rotate_left
  · refine SatL.of 26 [4] Tryd.func23 (by kernel_rfl) (by kernel_rfl) rfl rfl rfl rfl ?_
    repeat' (first|(apply OK_seq)|(apply thenQ_n)|(apply OK_region)|(refine OK_rid 6 ?_; refine OK_quiet (id := 6) (by kernel_rfl) (by kernel_rfl) ?_)|(apply OKx_nilK)|(apply OK_block)|(apply blockQ_n)|(apply blockQ_s)|(apply thenQ_e)|(apply blockQ_e;exact rfl)|(apply thenQ_r)|(apply blockQ_r)|(apply OK_condT;exact rfl)|(apply OK_condF;exact rfl)|(apply OK_skip)|(apply OK_exit)|(apply OK_ret)|(apply OKx_move;(conv=>lhs;whnf)<;>exact rfl)|(apply OKx_assign;(conv=>lhs;whnf)<;>exact rfl)|(apply OKx_ldB;exact rfl;(first | exact at0|exact at1|exact at2|exact at3|exact at4|exact at5|exact at6|exact at7);exact rfl)|(apply OKx_ldR;(conv=>lhs;whnf)<;>exact rfl;(with_reducible assumption))|(apply OKx_len;exact rfl)|(apply OKx_lenR;(conv=>lhs;whnf)<;>exact rfl;(with_reducible assumption))|(apply OKx_lenR2;(conv=>lhs;whnf)<;>exact rfl;(with_reducible assumption))|(apply OKx_lenO;(conv=>lhs;whnf)<;>exact rfl;(first | exact at0|exact at1|exact at2|exact at3|exact at4|exact at5|exact at6|exact at7))|(apply OKx_lss;exact rfl;exact rfl;all_goals (intro _; try (exfalso;omega)))|(apply OKx_neq;exact rfl;exact rfl;all_goals (intro _; try (exfalso;omega)))|(apply OKx_sneq;exact rfl;exact rfl; all_goals intro _)|(apply OKx_idxO;exact rfl;exact rfl;omega)|(apply OKx_idxR;(conv=>lhs;whnf)<;>exact rfl;(with_reducible assumption);exact rfl;omega;intro _ _)|(apply OKx_idxOz;exact rfl;exact rfl;omega;omega)|(apply OKx_idxRz;(conv=>lhs;whnf)<;>exact rfl;(with_reducible assumption);exact rfl;omega;omega;intro _ _)|(apply OKx_inc;exact rfl;exact rfl;omega)|(apply OKx_addN;exact rfl;exact rfl;omega)|(apply OKx_add;exact rfl;exact rfl;omega;omega))
    refine bodyQ_r1 (by ((conv=>lhs;whnf)<;>exact rfl)) ?_
    exact ⟨_, Ent.nil, bool_eq (decide_eq_false (fun e => hl (by rw [e]))).symm, rfl⟩
  refine SatL.of 26 [4] Tryd.func23 (by kernel_rfl) (by kernel_rfl) rfl rfl rfl rfl ?_
  repeat' (first|(apply OK_seq)|(apply thenQ_n)|(apply OK_region)|(refine OK_rid 6 ?_; refine OK_quiet (id := 6) (by kernel_rfl) (by kernel_rfl) ?_)|(apply OKx_nilK)|(apply OK_block)|(apply blockQ_n)|(apply blockQ_s)|(apply thenQ_e)|(apply blockQ_e;exact rfl)|(apply thenQ_r)|(apply blockQ_r)|(apply OK_condT;exact rfl)|(apply OK_condF;exact rfl)|(apply OK_skip)|(apply OK_exit)|(apply OK_ret)|(apply OKx_move;(conv=>lhs;whnf)<;>exact rfl)|(apply OKx_assign;(conv=>lhs;whnf)<;>exact rfl)|(apply OKx_ldB;exact rfl;(first | exact at0|exact at1|exact at2|exact at3|exact at4|exact at5|exact at6|exact at7);exact rfl)|(apply OKx_ldR;(conv=>lhs;whnf)<;>exact rfl;(with_reducible assumption))|(apply OKx_len;exact rfl)|(apply OKx_lenR;(conv=>lhs;whnf)<;>exact rfl;(with_reducible assumption))|(apply OKx_lenR2;(conv=>lhs;whnf)<;>exact rfl;(with_reducible assumption))|(apply OKx_lenO;(conv=>lhs;whnf)<;>exact rfl;(first | exact at0|exact at1|exact at2|exact at3|exact at4|exact at5|exact at6|exact at7))|(apply OKx_lss;exact rfl;exact rfl;all_goals (intro _; try (exfalso;omega)))|(apply OKx_neq;exact rfl;exact rfl;all_goals (intro _; try (exfalso;omega)))|(apply OKx_sneq;exact rfl;exact rfl; all_goals intro _)|(apply OKx_idxO;exact rfl;exact rfl;omega)|(apply OKx_idxR;(conv=>lhs;whnf)<;>exact rfl;(with_reducible assumption);exact rfl;omega;intro _ _)|(apply OKx_idxOz;exact rfl;exact rfl;omega;omega)|(apply OKx_idxRz;(conv=>lhs;whnf)<;>exact rfl;(with_reducible assumption);exact rfl;omega;omega;intro _ _)|(apply OKx_inc;exact rfl;exact rfl;omega)|(apply OKx_addN;exact rfl;exact rfl;omega)|(apply OKx_add;exact rfl;exact rfl;omega;omega))
  refine OK_loop1 13 [4, 5, 13, 14, 15, 16, 17, 18, 19, 20, 21, 22, 23, 24, 25] (fun m v L => ∃ k : Nat, k + m = xs.length ∧ v = .int .i64 (k : Int) ∧ (∀ j, j < k → xs.getD j ByteArray.empty = ys.getD j ByteArray.empty) ∧ L = []) xs.length _ (Ent.refl _ _) ⟨0, by omega, rfl, fun j hj => absurd hj (by omega), rfl⟩ ?_
  rintro m v' L G ⟨k, hm, rfl, H, rfl⟩
  repeat' (first|(apply OK_seq)|(apply thenQ_n)|(apply OK_region)|(refine OK_rid 6 ?_; refine OK_quiet (id := 6) (by kernel_rfl) (by kernel_rfl) ?_)|(apply OKx_nilK)|(apply OK_block)|(apply blockQ_n)|(apply blockQ_s)|(apply thenQ_e)|(apply blockQ_e;exact rfl)|(apply thenQ_r)|(apply blockQ_r)|(apply OK_condT;exact rfl)|(apply OK_condF;exact rfl)|(apply OK_skip)|(apply OK_exit)|(apply OK_ret)|(apply OKx_move;(conv=>lhs;whnf)<;>exact rfl)|(apply OKx_assign;(conv=>lhs;whnf)<;>exact rfl)|(apply OKx_ldB;exact rfl;(first | exact at0|exact at1|exact at2|exact at3|exact at4|exact at5|exact at6|exact at7);exact rfl)|(apply OKx_ldR;(conv=>lhs;whnf)<;>exact rfl;(with_reducible assumption))|(apply OKx_len;exact rfl)|(apply OKx_lenR;(conv=>lhs;whnf)<;>exact rfl;(with_reducible assumption))|(apply OKx_lenR2;(conv=>lhs;whnf)<;>exact rfl;(with_reducible assumption))|(apply OKx_lenO;(conv=>lhs;whnf)<;>exact rfl;(first | exact at0|exact at1|exact at2|exact at3|exact at4|exact at5|exact at6|exact at7))|(apply OKx_lss;exact rfl;exact rfl;all_goals (intro _; try (exfalso;omega)))|(apply OKx_neq;exact rfl;exact rfl;all_goals (intro _; try (exfalso;omega)))|(apply OKx_sneq;exact rfl;exact rfl; all_goals intro _)|(apply OKx_idxO;exact rfl;exact rfl;omega)|(apply OKx_idxR;(conv=>lhs;whnf)<;>exact rfl;(with_reducible assumption);exact rfl;omega;intro _ _)|(apply OKx_idxOz;exact rfl;exact rfl;omega;omega)|(apply OKx_idxRz;(conv=>lhs;whnf)<;>exact rfl;(with_reducible assumption);exact rfl;omega;omega;intro _ _)|(apply OKx_inc;exact rfl;exact rfl;omega)|(apply OKx_addN;exact rfl;exact rfl;omega)|(apply OKx_add;exact rfl;exact rfl;omega;omega))
  · refine bodyQ_r1 (by ((conv=>lhs;whnf)<;>exact rfl)) ?_
    exact ⟨_, Ent.nil, bool_eq (decide_eq_false (fun e => by subst e; simp_all)).symm, rfl⟩
  · refine ⟨by (repeat' (first | refine agree_upd rfl ?_ | exact agree_over | exact agree_refl _ _ | refine agree_over2 rfl ?_)), m - 1, _, by omega, Ent.refl _ _, ?_⟩
    refine ⟨k + 1, by omega, rfl, fun j hj => ?_, rfl⟩
    by_cases hjk : j < k
    · exact H j hjk
    · obtain rfl : j = k := by omega
      assumption
  · refine bodyQ_r1 (by ((conv=>lhs;whnf)<;>exact rfl)) ?_
    exact ⟨_, Ent.nil, bool_eq (decide_eq_true (ext_getDg xs ys _ hl (fun j hj => H j (by omega)))).symm, rfl⟩
end Go.Proofs.YtpfemholpigdeaaDoor
