/-
  Part 27 of the proof: Qd27. No statement of the seat is proved here.
-/
import Derived.Test.YthnlnffmmioapaaGreatDoorMHCl2726
namespace Go.Proofs.YthnlnffmmioapaaGreatDoor
open Go.RowKit
theorem no32 {s : List UInt8} (h : ∀ q, q < s.length → (s.getD q 0).toNat ≠ 32) : s.contains 32 = false := by
  rw [Bool.eq_false_iff, ne_eq, List.contains_iff_mem]
  intro hm
  obtain ⟨q, hq, e⟩ := List.getElem_of_mem hm
  refine h q hq ?_
  rw [getD_lt _ _ _ hq, e]
  rfl
theorem has32 {s : List UInt8} {q : Nat} (hq : q < s.length) (h : (s.getD q 0).toNat = 32) : s.contains 32 = true := by
  rw [List.contains_iff_mem]
  have e : s.getD q 0 = 32 := UInt8.toNat_inj.1 h
  rw [← e, getD_lt _ _ _ hq]
  exact List.getElem_mem hq
set_option maxRecDepth 100000 in
set_option maxHeartbeats 4000000 in
theorem rwords_sat (v : Value) (l : List ByteArray) (w : World) (h : Strs w v l) : SatV Tryz.prog 33 [v] w (.bool (wdsB l)) := by
  have hsl := h.sl
  have hb := hsl.bound
  rw [wdsB_all]
  by_cases h0 : 1024 < l.length
  · rw [decide_eq_false (by omega), Bool.false_and]
    refine SatL.of 43 [2] Tryz.func33 (by kernel_rfl) (by kernel_rfl) rfl rfl rfl rfl ?_
    repeat' (first|(apply OK_seq)|(apply thenQ_n)|(apply OK_region)|(apply OKx_nilK)|(apply thenQ_r)|(apply OK_condT;exact rfl)|(apply OK_ret)|(apply OKx_move;(conv=>lhs;whnf)<;>exact rfl)|(apply OKx_assign;(conv=>lhs;whnf)<;>exact rfl)|(apply OKx_lenR;(conv=>lhs;whnf)<;>exact rfl;(with_reducible assumption))|(apply OKx_gtr;exact rfl;exact rfl;all_goals (intro _; try (exfalso;omega))))
    all_goals (try (exfalso;omega))
    refine bodyQ_r1 (by ((conv=>lhs;whnf)<;>exact rfl)) ?_
    exact ⟨_, Ent.nil, rfl, rfl⟩
  rw [decide_eq_true (by omega), Bool.true_and]
  refine SatL.of 43 [2] Tryz.func33 (by kernel_rfl) (by kernel_rfl) rfl rfl rfl rfl ?_
  repeat' (first|(apply OK_seq)|(apply thenQ_n)|(apply OK_region)|(apply OKx_nilK)|(apply OK_block)|(apply OK_condF;exact rfl)|(apply OK_skip)|(apply OKx_move;(conv=>lhs;whnf)<;>exact rfl)|(apply OKx_assign;(conv=>lhs;whnf)<;>exact rfl)|(apply OKx_lenR;(conv=>lhs;whnf)<;>exact rfl;(with_reducible assumption))|(apply OKx_gtr;exact rfl;exact rfl;all_goals (intro _; try (exfalso;omega))))
  all_goals (try (exfalso;omega))
  refine OK_loop1 3 [2, 3, 4, 8, 9, 10, 11, 12, 13, 14, 15, 16, 17, 18, 19, 20, 21, 22, 23, 24, 25, 26, 27, 28, 29, 30, 31, 32, 33, 34, 35, 36, 37, 38, 39, 40, 41, 42] (fun m v L => ∃ j : Nat, j + m = l.length ∧ v = .int .i64 (j : Int) ∧ (∀ i, i < j → wdB (l.getD i ByteArray.empty) = true) ∧ L = []) l.length _ (Ent.refl _ _) ⟨0, by omega, rfl, fun i hi => absurd hi (by omega), rfl⟩ ?_
  rintro m v' L G ⟨j, hm, rfl, H, rfl⟩
  by_cases hj : j < l.length
  · have hd : l.getD j ByteArray.empty = l[j] := getD_lt _ _ _ hj
    have hbl := byts_len l[j]
    have hnm : Value.string (l.getD j ByteArray.empty) = .string (bOf (byts l[j])) := by rw [hd, show bOf (byts l[j]) = l[j] from bOf_data _]
    have hz := size_nil l[j]
    have hbad : wdB l[j] = false → l.all wdB = false := fun h => List.all_eq_false.2 ⟨_, List.getElem_mem hj, by rw [h]; decide⟩
    by_cases hok : 0 < l[j].size ∧ l[j].size ≤ 64
    rotate_left
    · have hf : l.all wdB = false := hbad (by
        unfold wdB
        by_cases q : 0 < l[j].size
        · rw [decide_eq_false (show ¬ l[j].size ≤ 64 from fun q2 => hok ⟨q, q2⟩), Bool.false_and, Bool.and_false]
        · rw [decide_eq_false q, Bool.false_and])
      rw [hf]
      have hs0 : (l.getD j ByteArray.empty).size = l[j].size := by rw [hd]
      repeat' (first|(apply OK_seq)|(apply thenQ_n)|(apply OK_region)|(apply OKx_nilK)|(apply OK_block)|(apply thenQ_r)|(apply blockQ_r)|(apply OK_condT;exact rfl)|(apply OK_condF;exact rfl)|(apply OK_skip)|(apply OK_ret)|(apply OKx_move;(conv=>lhs;whnf)<;>exact rfl)|(apply OKx_assign;(conv=>lhs;whnf)<;>exact rfl)|(apply OKx_ldR;(conv=>lhs;whnf)<;>exact rfl;(with_reducible assumption))|(apply OKx_lenR;(conv=>lhs;whnf)<;>exact rfl;(with_reducible assumption))|(apply OKx_lenS;exact rfl)|(apply OKx_lss;exact rfl;exact rfl;all_goals (intro _; try (exfalso;omega)))|(apply OKx_gtr;exact rfl;exact rfl;all_goals (intro _; try (exfalso;omega)))|(apply OKx_seql;exact rfl;exact rfl; all_goals intro _)|(apply OKx_idxR;(conv=>lhs;whnf)<;>exact rfl;(with_reducible assumption);exact rfl;omega;intro _ _)|(apply OKx_pickT;exact rfl;(conv=>lhs;whnf)<;>exact rfl)|(apply OKx_pickF;exact rfl;(conv=>lhs;whnf)<;>exact rfl)|(apply OKx_guardT;exact rfl;exact rfl)|(apply OKx_guardF;exact rfl;exact rfl))
      all_goals first
        | ((refine bodyQ_r1 (by ((conv=>lhs;whnf)<;>exact rfl)) ?_)
           exact ⟨_, Ent.nil, rfl, rfl⟩)
        | (exfalso
           refine hok ⟨Nat.pos_of_ne_zero fun q => ?_, by omega⟩
           exact absurd (hd.trans (hz.1 q)) (by assumption))
        | (exfalso;omega)
    have hs0 : (l.getD j ByteArray.empty).size = l[j].size := by rw [hd]
    have hne : l.getD j ByteArray.empty ≠ ⟨#[]⟩ := fun q => by
      have := hz.2 (hd.symm.trans q)
      omega
    repeat' (first|(apply OK_seq)|(apply thenQ_n)|(apply OK_region)|(apply OKx_nilK)|(apply OK_block)|(apply thenQ_r)|(apply blockQ_r)|(apply OK_condT;exact rfl)|(apply OK_condF;exact rfl)|(apply OK_skip)|(apply OK_ret)|(apply OKx_move;(conv=>lhs;whnf)<;>exact rfl)|(apply OKx_assign;(conv=>lhs;whnf)<;>exact rfl)|(apply OKx_ldR;(conv=>lhs;whnf)<;>exact rfl;(with_reducible assumption))|(apply OKx_lenR;(conv=>lhs;whnf)<;>exact rfl;(with_reducible assumption))|(apply OKx_lenS;exact rfl)|(apply OKx_lss;exact rfl;exact rfl;all_goals (intro _; try (exfalso;omega)))|(apply OKx_gtr;exact rfl;exact rfl;all_goals (intro _; try (exfalso;omega)))|(apply OKx_seql;exact rfl;exact rfl; all_goals intro _)|(apply OKx_idxR;(conv=>lhs;whnf)<;>exact rfl;(with_reducible assumption);exact rfl;omega;intro _ _)|(apply OKx_pickT;exact rfl;(conv=>lhs;whnf)<;>exact rfl)|(apply OKx_pickF;exact rfl;(conv=>lhs;whnf)<;>exact rfl)|(apply OKx_guardT;exact rfl;exact rfl)|(apply OKx_guardF;exact rfl;exact rfl))
    all_goals (try (exfalso;omega))
    all_goals (try exact absurd (by assumption) hne)
    refine OK_loop1 4 [2, 4, 27, 28, 29, 30, 31, 32, 33, 34, 35, 36, 37, 38, 39, 40, 41, 42] (fun m2 v L => ∃ k : Nat, k + m2 = (byts l[j]).length ∧ v = .int .i64 (k : Int) ∧ (∀ q, q < k → ((byts l[j]).getD q 0).toNat ≠ 32) ∧ L = []) (byts l[j]).length _ (Ent.refl _ _) ⟨0, by omega, rfl, fun i hi => absurd hi (by omega), rfl⟩ ?_
    rintro m2 v2 L G2 ⟨k, hm2, rfl, H2, rfl⟩
    by_cases hk : k < (byts l[j]).length
    · repeat' (first|(apply OK_seq)|(apply thenQ_n)|(apply OK_region)|(refine OKx_idxB7 (i := k) hnm rfl hk ?_)|(apply OKx_nilK)|(apply OK_block)|(apply blockQ_n)|(apply thenQ_r)|(apply blockQ_r)|(apply OK_condT;exact rfl)|(apply OK_condF;exact rfl)|(apply OK_skip)|(apply OK_ret)|(apply OKx_move;(conv=>lhs;whnf)<;>exact rfl)|(apply OKx_assign;(conv=>lhs;whnf)<;>exact rfl)|(apply OKx_ldR;(conv=>lhs;whnf)<;>exact rfl;(with_reducible assumption))|(apply OKx_lenS;exact rfl)|(apply OKx_lss;exact rfl;exact rfl;all_goals (intro _; try (exfalso;omega)))|(apply OKx_eql;exact rfl;exact rfl;all_goals (intro _; try (exfalso;omega)))|(apply OKx_idxR;(conv=>lhs;whnf)<;>exact rfl;(with_reducible assumption);exact rfl;omega;intro _ _)|(apply OKx_inc;exact rfl;exact rfl;omega))
      all_goals (try (exfalso;omega))
      all_goals first
        | (refine ⟨by (repeat' (first | refine agree_upd rfl ?_ | exact agree_over | exact agree_refl _ _ | refine agree_over2 rfl ?_)), m2 - 1, _, by omega, Ent.refl _ _, ?_⟩
           refine ⟨k + 1, by omega, rfl, fun q hq => ?_, rfl⟩
           by_cases e : q = k
           · subst e;omega
           · exact H2 q (by omega))
        | ((refine bodyQ_r1 (by ((conv=>lhs;whnf)<;>exact rfl)) ?_)
           refine ⟨_, Ent.nil, bool_eq ?_, rfl⟩
           rw [hbad]
           unfold wdB
           rw [has32 hk (by omega)]
           simp)
    · obtain rfl : k = (byts l[j]).length := by omega
      repeat' (first|(apply OK_seq)|(apply thenQ_n)|(apply OK_region)|(apply OKx_nilK)|(apply blockQ_n)|(apply blockQ_s)|(apply thenQ_e)|(apply OK_condF;exact rfl)|(apply OK_exit)|(apply OKx_move;(conv=>lhs;whnf)<;>exact rfl)|(apply OKx_assign;(conv=>lhs;whnf)<;>exact rfl)|(apply OKx_ldR;(conv=>lhs;whnf)<;>exact rfl;(with_reducible assumption))|(apply OKx_lenS;exact rfl)|(apply OKx_lss;exact rfl;exact rfl;all_goals (intro _; try (exfalso;omega)))|(apply OKx_idxR;(conv=>lhs;whnf)<;>exact rfl;(with_reducible assumption);exact rfl;omega;intro _ _)|(apply OKx_inc;exact rfl;exact rfl;omega))
      all_goals (try (exfalso;omega))
      refine ⟨by (repeat' (first | refine agree_upd rfl ?_ | exact agree_over | exact agree_refl _ _ | refine agree_over2 rfl ?_)), m - 1, _, by omega, Ent.refl _ _, ?_⟩
      refine ⟨j + 1, by omega, rfl, fun i hi => ?_, rfl⟩
      by_cases e : i = j
      · subst e
        rw [hd]
        unfold wdB
        rw [no32 H2, decide_eq_true hok.1, decide_eq_true hok.2]
        rfl
      · exact H i (by omega)
  · obtain rfl : j = l.length := by omega
    repeat' (first|(apply OK_seq)|(apply thenQ_n)|(apply OK_region)|(apply OKx_nilK)|(apply blockQ_s)|(apply thenQ_e)|(apply OK_condF;exact rfl)|(apply OK_exit)|(apply OK_ret)|(apply OKx_move;(conv=>lhs;whnf)<;>exact rfl)|(apply OKx_assign;(conv=>lhs;whnf)<;>exact rfl)|(apply OKx_lenR;(conv=>lhs;whnf)<;>exact rfl;(with_reducible assumption))|(apply OKx_lss;exact rfl;exact rfl;all_goals (intro _; try (exfalso;omega))))
    all_goals (try (exfalso;omega))
    refine bodyQ_r1 (by ((conv=>lhs;whnf)<;>exact rfl)) ?_
    refine ⟨_, Ent.nil, bool_eq ?_, rfl⟩
    rw [eq_comm, List.all_eq_true]
    intro x hx
    obtain ⟨i, hi, rfl⟩ := List.getElem_of_mem hx
    have := H i hi
    rwa [getD_lt _ _ _ hi] at this
set_option maxRecDepth 100000 in
set_option maxHeartbeats 4000000 in
theorem rright27_sat (v : Value) (r : Rdn) (w : World) (h : RdnV w r v) : SatV Tryz.prog 34 [v] w (.bool (rdgB r)) := by
  obtain ⟨wv, sv, rfl, hW, hS⟩ := h
  obtain ⟨sa, sc, rfl, _⟩ := hS.at
  have hsl := hS.sl
  have hb := hsl.bound
  have hw := fun w1 (hb : Below w.heap.size w w1) => rwords_sat wv r.words w1 (hW.below hb)
  unfold rdgB
  rw [srcB_all]
  refine SatL.of 46 [2] Tryz.func34 (by kernel_rfl) (by kernel_rfl) rfl rfl rfl rfl ?_
  repeat' (first|(apply OK_seq)|(apply thenQ_n)|(apply OK_region)|(apply OKx_nilK)|(apply OK_block)|(apply OKx_assign;(conv=>lhs;whnf)<;>exact rfl)|(apply OKx_boxA;exact rfl;intro _))
  rename_i g0
  refine OK_loop1 3 [2, 3, 4, 5, 6, 7, 8, 9, 10, 11, 12, 13, 14, 15, 16, 17, 18, 19, 20, 21, 22, 23, 24, 25, 26, 27, 28, 29, 30, 31, 32, 33, 34, 35, 36, 37, 38, 39, 40, 41, 42] (fun m v L => ∃ k : Nat, k + m = r.src.length ∧ v = .int .i64 (k : Int) ∧ (∀ j, j < k → srcOk r.src j = true) ∧ L = [.box 33 g0 [wv, .slice sa r.src.length sc]]) r.src.length _ (Ent.refl _ _) ⟨0, by omega, rfl, fun j hj => absurd hj (by omega), rfl⟩ ?_
  rintro m v' L G ⟨k, hm, rfl, H, rfl⟩
  by_cases hk : k < r.src.length
  · repeat' (first|(apply OK_seq)|(apply thenQ_n)|(apply OK_region)|(refine OK_rid 4 ?_; refine OK_quiet (id := 4) (by kernel_rfl) (by kernel_rfl) ?_)|(apply OKx_nilK)|(apply OK_block)|(apply blockQ_n)|(apply thenQ_r)|(apply blockQ_r)|(apply OK_condT;exact rfl)|(apply OK_condF;exact rfl)|(apply OK_skip)|(apply OK_ret)|(apply OKx_move;(conv=>lhs;whnf)<;>exact rfl)|(apply OKx_assign;(conv=>lhs;whnf)<;>exact rfl)|(apply OKx_ldB;exact rfl; (apply atP;constructor);exact rfl)|(apply OKx_ldR;(conv=>lhs;whnf)<;>exact rfl;(with_reducible assumption))|(apply OKx_len;exact rfl)|(apply OKx_lss;exact rfl;exact rfl;all_goals (intro _; try (exfalso;omega)))|(apply OKx_leq;exact rfl;exact rfl;all_goals (intro _; try (exfalso;omega)))|(apply OKx_gtr;exact rfl;exact rfl;all_goals (intro _; try (exfalso;omega)))|(apply OKx_geq;exact rfl;exact rfl;all_goals (intro _; try (exfalso;omega)))|(apply OKx_idxR;(conv=>lhs;whnf)<;>exact rfl;(with_reducible assumption);exact rfl;omega;intro _ _)|(apply OKx_fldO;exact rfl;exact rfl)|(apply OKx_inc;exact rfl;exact rfl;omega)|(apply OKx_dec;exact rfl;exact rfl;omega;omega)|(apply OKx_pickT;exact rfl;(conv=>lhs;whnf)<;>exact rfl)|(apply OKx_pickF;exact rfl;(conv=>lhs;whnf)<;>exact rfl)|(apply OKx_guardT;exact rfl;exact rfl)|(apply OKx_guardF;exact rfl;exact rfl)|(apply OKx_guardU;exact rfl;exact rfl))
    all_goals (try (exfalso;omega))
    all_goals first
      | (refine ⟨by (repeat' (first | refine agree_upd rfl ?_ | exact agree_over | exact agree_refl _ _ | refine agree_over2 rfl ?_)), m - 1, _, by omega, Ent.refl _ _, ?_⟩
         refine ⟨k + 1, by omega, rfl, fun j hj => ?_, rfl⟩
         by_cases hjk : j < k
         · exact H j hjk
         · obtain rfl : j = k := by omega
           exact (srcOk_iff _ _).2 (by omega))
      | ((refine bodyQ_r1 (by ((conv=>lhs;whnf)<;>exact rfl)) ?_)
         refine ⟨_, Ent.nil, bool_eq ?_, rfl⟩
         rw [eq_comm, Bool.eq_false_iff]
         intro h9
         rw [Bool.and_eq_true, List.all_eq_true] at h9
         have := (srcOk_iff _ _).1 (h9.1 k (List.mem_range.2 (by omega)))
         omega)
  · obtain rfl : k = r.src.length := by omega
    repeat' (first|(apply OK_seq)|(apply thenQ_n)|(apply OK_region)|(apply OKx_gc 33;exact rfl; refine OKx_callV (f := 33) rfl rfl rfl (fun w1 hp => hw w1 hp.below) ?_)|(apply OKx_nilK)|(apply blockQ_s)|(apply thenQ_e)|(apply OK_condF;exact rfl)|(apply OK_exit)|(apply OK_ret)|(apply OKx_move;(conv=>lhs;whnf)<;>exact rfl)|(apply OKx_assign;(conv=>lhs;whnf)<;>exact rfl)|(apply OKx_ldB;exact rfl; (apply atP;constructor);exact rfl)|(apply OKx_len;exact rfl)|(apply OKx_lss;exact rfl;exact rfl;all_goals (intro _; try (exfalso;omega)))|(apply OKx_fldO;exact rfl;exact rfl))
    all_goals (try (exfalso;omega))
    refine bodyQ_r1 (by ((conv=>lhs;whnf)<;>exact rfl)) ?_
    refine ⟨_, Ent.nil, bool_eq ?_, rfl⟩
    rw [show (List.range r.src.length).all (srcOk r.src) = true from List.all_eq_true.2 fun j hj => H j (by rw [List.mem_range] at hj;omega), Bool.true_and]
end Go.Proofs.YthnlnffmmioapaaGreatDoor
