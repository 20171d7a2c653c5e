/-
  Part 26 of the proof: Qc27. No statement of the seat is proved here.
-/
import Derived.Test.YthnlnffmmioapaaGreatDoorMHCl2725
namespace Go.Proofs.YthnlnffmmioapaaGreatDoor
open Go.RowKit
def u8s (s : List UInt8) : List Value := s.map fun b => .int .u8 (b.toNat : Int)
theorem u8s_snoc (s : List UInt8) (c : UInt8) : u8s (s ++ [c]) = u8s s ++ [.int .u8 (c.toNat : Int)] := by simp [u8s]
set_option maxRecDepth 100000 in
set_option maxHeartbeats 4000000 in
theorem rFold_sat (s : List UInt8) (w : World) (hs : s.length ≤ 1000000) : SatV Tryz.prog 63 [.string (bOf s)] w (.string (bOf (s.map foldC))) := by
  have hz : (bOf s).size = s.length := bOf_size s
  refine SatL.of 31 [2] Tryz.func63 (by kernel_rfl) (by kernel_rfl) rfl rfl rfl rfl ?_
  repeat' (first|(apply OK_seq)|(apply thenQ_n)|(apply OK_region)|(apply OKx_nilK)|(apply OK_block)|(apply OKx_assign;(conv=>lhs;whnf)<;>exact rfl)|(apply OKx_slit0;intro _))
  refine OK_loop2 3 4 [3, 4, 5, 7, 8, 9, 10, 11, 12, 13, 14, 15, 16, 17, 18, 19, 20, 21, 22, 23, 24, 25, 26, 27, 28] (fun m u v L => ∃ k : Nat, k + m = s.length ∧ v = .int .i64 (k : Int) ∧ L = [.row 5 1 u k (u8s ((s.take k).map foldC))]) s.length _ (Ent.refl _ _) ⟨0, by omega, rfl, rfl⟩ ?_
  rintro m u v L G ⟨k, hm, rfl, rfl⟩
  by_cases hk : k < s.length
  · have hfn := foldC_nat (s.getD k 0)
    have hbd : (s.getD k 0).toNat < 256 := UInt8.toNat_lt _
    have htk : u8s ((s.take (k + 1)).map foldC) = u8s ((s.take k).map foldC) ++ [.int .u8 ((foldC (s.getD k 0)).toNat : Int)] := by
      rw [List.take_succ_eq_append_getElem hk, List.map_append, List.map_cons, List.map_nil, u8s_snoc, getD_lt _ _ _ hk]
    by_cases hu : 65 ≤ (s.getD k 0).toNat ∧ (s.getD k 0).toNat ≤ 90
    · rw [if_pos hu] at hfn
      have hadd : IntKind.u8.wrap (((s.getD k 0).toNat : Int) + 97) = ((s.getD k 0).toNat : Int) + 97 := wrapU8 _ (by omega) (by omega)
      have hsub : IntKind.u8.wrap (((s.getD k 0).toNat : Int) + 97 - 65) = ((foldC (s.getD k 0)).toNat : Int) := by rw [wrapU8 _ (by omega) (by omega), hfn];omega
      repeat' (first|(apply OK_seq)|(apply thenQ_n)|(apply OK_region)|(refine OKx_idxB7 (i := k) rfl rfl hk ?_)|(refine OKx_addK (k := .u8) rfl rfl hadd ?_)|(refine OKx_subK rfl rfl hsub ?_)|(apply OKx_gb; refine OKx_append1 1 0 rfl rfl rfl rfl rfl (by omega) (by omega) ?_; intro gr cr)|(apply OKx_nilK)|(apply OK_block)|(apply blockQ_n)|(apply OK_condT;exact rfl)|(apply OK_skip)|(apply OKx_move;(conv=>lhs;whnf)<;>exact rfl)|(apply OKx_assign;(conv=>lhs;whnf)<;>exact rfl)|(apply OKx_lenS;exact rfl)|(apply OKx_lss;exact rfl;exact rfl;all_goals (intro _; try (exfalso;omega)))|(apply OKx_leq;exact rfl;exact rfl;all_goals (intro _; try (exfalso;omega)))|(apply OKx_geq;exact rfl;exact rfl;all_goals (intro _; try (exfalso;omega)))|(apply OKx_inc;exact rfl;exact rfl;omega)|(apply OKx_pickT;exact rfl;(conv=>lhs;whnf)<;>exact rfl)|(apply OKx_guardT;exact rfl;exact rfl)|(apply OKx_slit1;(conv=>lhs;whnf)<;>exact rfl;exact rfl;intro _))
      all_goals (try (exfalso;omega))
      refine ⟨by (repeat' (first | refine agree_upd rfl ?_ | exact agree_over | exact agree_refl _ _ | refine agree_over2 rfl ?_)), m - 1, _, by omega, Ent.pick [1] rfl, ?_⟩
      exact ⟨k + 1, by omega, rfl, by rw [htk] <;> rfl⟩
    · rw [if_neg hu] at hfn
      have hsame : foldC (s.getD k 0) = s.getD k 0 := UInt8.toNat_inj.1 hfn
      rw [hsame] at htk
      repeat' (first|(apply OK_seq)|(apply thenQ_n)|(apply OK_region)|(refine OKx_idxB7 (i := k) rfl rfl hk ?_)|(apply OKx_gb; refine OKx_append1 1 0 rfl rfl rfl rfl rfl (by omega) (by omega) ?_; intro gr cr)|(apply OKx_nilK)|(apply OK_block)|(apply blockQ_n)|(apply OK_condT;exact rfl)|(apply OK_condF;exact rfl)|(apply OK_skip)|(apply OKx_move;(conv=>lhs;whnf)<;>exact rfl)|(apply OKx_assign;(conv=>lhs;whnf)<;>exact rfl)|(apply OKx_lenS;exact rfl)|(apply OKx_lss;exact rfl;exact rfl;all_goals (intro _; try (exfalso;omega)))|(apply OKx_leq;exact rfl;exact rfl;all_goals (intro _; try (exfalso;omega)))|(apply OKx_geq;exact rfl;exact rfl;all_goals (intro _; try (exfalso;omega)))|(apply OKx_inc;exact rfl;exact rfl;omega)|(apply OKx_pickT;exact rfl;(conv=>lhs;whnf)<;>exact rfl)|(apply OKx_pickF;exact rfl;(conv=>lhs;whnf)<;>exact rfl)|(apply OKx_guardT;exact rfl;exact rfl)|(apply OKx_guardF;exact rfl;exact rfl)|(apply OKx_slit1;(conv=>lhs;whnf)<;>exact rfl;exact rfl;intro _))
      all_goals (try (exfalso;omega))
      all_goals
        refine ⟨by (repeat' (first | refine agree_upd rfl ?_ | exact agree_over | exact agree_refl _ _ | refine agree_over2 rfl ?_)), m - 1, _, by omega, Ent.pick [1] rfl, ?_⟩
        exact ⟨k + 1, by omega, rfl, by rw [htk] <;> rfl⟩
  · obtain rfl : k = s.length := by omega
    rw [List.take_length]
    repeat' (first|(apply OK_seq)|(apply thenQ_n)|(apply OK_region)|(refine OKx_convBS 0 rfl rfl Tryz.underlying92 (by kernel_rfl) (by kernel_rfl) ?_)|(apply OKx_nilK)|(apply blockQ_s)|(apply thenQ_e)|(apply OK_condF;exact rfl)|(apply OK_exit)|(apply OK_ret)|(apply OKx_move;(conv=>lhs;whnf)<;>exact rfl)|(apply OKx_assign;(conv=>lhs;whnf)<;>exact rfl)|(apply OKx_lenS;exact rfl)|(apply OKx_lss;exact rfl;exact rfl;all_goals (intro _; try (exfalso;omega))))
    all_goals (try (exfalso;omega))
    refine bodyQ_r1 (by ((conv=>lhs;whnf)<;>exact rfl)) ?_
    exact ⟨_, Ent.nil, rfl, rfl⟩
set_option maxRecDepth 100000 in
set_option maxHeartbeats 4000000 in
theorem rPlain_sat (s : List UInt8) (w : World) (hs : s.length ≤ 1000000) : SatV Tryz.prog 64 [.string (bOf s)] w (.string (bOf (s.filter fun c => !mkC c))) := by
  have hz : (bOf s).size = s.length := bOf_size s
  have hkl : kpK s s.length = s.filter fun c => !mkC c := by unfold kpK; rw [List.take_length]
  refine SatL.of 25 [2] Tryz.func64 (by kernel_rfl) (by kernel_rfl) rfl rfl rfl rfl ?_
  repeat' (first|(apply OK_seq)|(apply thenQ_n)|(apply OK_region)|(apply OKx_nilK)|(apply OK_block)|(apply OKx_assign;(conv=>lhs;whnf)<;>exact rfl)|(apply OKx_slit0;intro _))
  refine OK_loop2 3 4 [3, 4, 6, 7, 8, 9, 10, 11, 12, 13, 14, 15, 16, 17, 18, 19, 20, 21, 22] (fun m u v L => ∃ k : Nat, k + m = s.length ∧ v = .int .i64 (k : Int) ∧ L = [.row 5 1 u (kpK s k).length (u8s (kpK s k))]) s.length _ (Ent.refl _ _) ⟨0, by omega, rfl, rfl⟩ ?_
  rintro m u v L G ⟨k, hm, rfl, rfl⟩
  by_cases hk : k < s.length
  · have hK := fun w1 => rkind7_sat (s.getD k 0) w1
    have hst := kpK_step s k hk
    have hle := kpK_le s k
    have hmk : mkC (s.getD k 0) = decide (kind ((s.getD k 0).toNat : Int) = 2) := rfl
    cases hc : mkC (s.getD k 0)
    · rw [hc, if_neg (by decide)] at hst
      rw [hc, eq_comm] at hmk
      have hne := of_decide_eq_false hmk
      have hu := u8s_snoc (kpK s k) (s.getD k 0)
      generalize kind ((s.getD k 0).toNat : Int) = kk at hK hne
      repeat' (first|(apply OK_seq)|(apply thenQ_n)|(apply OK_region)|(refine OKx_idxB7 (i := k) rfl rfl hk ?_)|(apply OKx_gc 84;exact rfl; refine OKx_callV (f := 84) rfl rfl rfl (fun w1 hp => hK w1) ?_)|(apply OKx_gb; refine OKx_append1 1 0 rfl rfl rfl rfl rfl (by omega) (by omega) ?_; intro gr cr)|(apply OKx_nilK)|(apply OK_block)|(apply blockQ_n)|(apply OK_condT;exact rfl)|(apply OK_skip)|(apply OKx_move;(conv=>lhs;whnf)<;>exact rfl)|(apply OKx_assign;(conv=>lhs;whnf)<;>exact rfl)|(apply OKx_lenS;exact rfl)|(apply OKx_lss;exact rfl;exact rfl;all_goals (intro _; try (exfalso;omega)))|(apply OKx_neq;exact rfl;exact rfl;all_goals (intro _; try (exfalso;omega)))|(apply OKx_inc;exact rfl;exact rfl;omega)|(apply OKx_slit1;(conv=>lhs;whnf)<;>exact rfl;exact rfl;intro _))
      all_goals (try (exfalso;omega))
      refine ⟨by (repeat' (first | refine agree_upd rfl ?_ | exact agree_over | exact agree_refl _ _ | refine agree_over2 rfl ?_)), m - 1, _, by omega, Ent.pick [1] rfl, ?_⟩
      exact ⟨k + 1, by omega, rfl, by rw [hst, List.length_append, hu] <;> rfl⟩
    · rw [hc, if_pos rfl, List.append_nil] at hst
      rw [hc, eq_comm] at hmk
      have hne := of_decide_eq_true hmk
      generalize kind ((s.getD k 0).toNat : Int) = kk at hK hne
      repeat' (first|(apply OK_seq)|(apply thenQ_n)|(apply OK_region)|(refine OKx_idxB7 (i := k) rfl rfl hk ?_)|(apply OKx_gc 84;exact rfl; refine OKx_callV (f := 84) rfl rfl rfl (fun w1 hp => hK w1) ?_)|(apply OKx_nilK)|(apply OK_block)|(apply blockQ_n)|(apply OK_condT;exact rfl)|(apply OK_condF;exact rfl)|(apply OK_skip)|(apply OKx_move;(conv=>lhs;whnf)<;>exact rfl)|(apply OKx_assign;(conv=>lhs;whnf)<;>exact rfl)|(apply OKx_lenS;exact rfl)|(apply OKx_lss;exact rfl;exact rfl;all_goals (intro _; try (exfalso;omega)))|(apply OKx_neq;exact rfl;exact rfl;all_goals (intro _; try (exfalso;omega)))|(apply OKx_inc;exact rfl;exact rfl;omega))
      all_goals (try (exfalso;omega))
      refine ⟨by (repeat' (first | refine agree_upd rfl ?_ | exact agree_over | exact agree_refl _ _ | refine agree_over2 rfl ?_)), m - 1, _, by omega, Ent.refl _ _, ?_⟩
      exact ⟨k + 1, by omega, rfl, by rw [hst] <;> rfl⟩
  · obtain rfl : k = s.length := by omega
    rw [hkl]
    repeat' (first|(apply OK_seq)|(apply thenQ_n)|(apply OK_region)|(refine OKx_convBS 0 rfl rfl Tryz.underlying92 (by kernel_rfl) (by kernel_rfl) ?_)|(apply OKx_nilK)|(apply blockQ_s)|(apply thenQ_e)|(apply OK_condF;exact rfl)|(apply OK_exit)|(apply OK_ret)|(apply OKx_move;(conv=>lhs;whnf)<;>exact rfl)|(apply OKx_assign;(conv=>lhs;whnf)<;>exact rfl)|(apply OKx_lenS;exact rfl)|(apply OKx_lss;exact rfl;exact rfl;all_goals (intro _; try (exfalso;omega))))
    all_goals (try (exfalso;omega))
    refine bodyQ_r1 (by ((conv=>lhs;whnf)<;>exact rfl)) ?_
    exact ⟨_, Ent.nil, rfl, rfl⟩
def onesL (s : List UInt8) : List ByteArray := s.map fun c => bOf [c]
theorem onesL_len (s : List UInt8) : (onesL s).length = s.length := List.length_map _
set_option maxRecDepth 100000 in
set_option maxHeartbeats 4000000 in
theorem rbytes_sat (s : List UInt8) (w : World) (hs : s.length ≤ 1000000) : Sat Tryz.prog 82 [.string (bOf s)] w (fun u L => L = [.row 9 1 u s.length (strs (onesL s))]) := by
  have hz : (bOf s).size = s.length := bOf_size s
  refine SatL.of 20 [2] Tryz.func82 (by kernel_rfl) (by kernel_rfl) rfl rfl rfl rfl ?_
  repeat' (first|(apply OK_seq)|(apply thenQ_n)|(apply OK_region)|(apply OKx_nilK)|(apply OK_block)|(apply OKx_assign;(conv=>lhs;whnf)<;>exact rfl))
  refine OK_loop2 3 4 [3, 4, 5, 6, 7, 8, 9, 10, 11, 12, 13, 14, 15, 16, 17, 18] (fun m u v L => ∃ k : Nat, k + m = s.length ∧ v = .int .i64 (k : Int) ∧ L = [.row 9 1 u k (strs (onesL (s.take k)))]) s.length _ (Ent.mk fun w1 h1 => h1.nil _ _) ⟨0, by omega, rfl, rfl⟩ ?_
  rintro m u v L G ⟨k, hm, rfl, rfl⟩
  by_cases hk : k < s.length
  · have hcut : (s.take (k + 1)).drop k = [s[k]] := by
      rw [List.take_succ_eq_append_getElem hk, List.drop_append, List.drop_of_length_le (by rw [List.length_take];omega), List.length_take, Nat.min_eq_left (Nat.le_of_lt hk), Nat.sub_self]
      rfl
    have htk : strs (onesL (s.take (k + 1))) = strs (onesL (s.take k)) ++ [.string (bOf [s[k]])] := by
      unfold strs onesL
      rw [List.take_succ_eq_append_getElem hk, List.map_append, List.map_append]
      rfl
    repeat' (first|(apply OK_seq)|(apply thenQ_n)|(apply OK_region)|(apply OKx_gn; refine OKx_inc (a := k) rfl rfl (by omega) ?_)|(refine OKx_sslLH (l := k) (h := k + 1) rfl rfl rfl (by omega) (by omega) hcut ?_)|(apply OKx_gb; refine OKx_append1 1 0 rfl rfl rfl rfl rfl (by omega) (by omega) ?_; intro gr cr)|(apply OKx_nilK)|(apply OK_block)|(apply blockQ_n)|(apply OK_condT;exact rfl)|(apply OK_skip)|(apply OKx_move;(conv=>lhs;whnf)<;>exact rfl)|(apply OKx_assign;(conv=>lhs;whnf)<;>exact rfl)|(apply OKx_lenS;exact rfl)|(apply OKx_lss;exact rfl;exact rfl;all_goals (intro _; try (exfalso;omega)))|(apply OKx_slit1;(conv=>lhs;whnf)<;>exact rfl;exact rfl;intro _))
    all_goals (try (exfalso;omega))
    refine ⟨by (repeat' (first | refine agree_upd rfl ?_ | exact agree_over | exact agree_refl _ _ | refine agree_over2 rfl ?_)), m - 1, _, by omega, Ent.pick [1] rfl, ?_⟩
    exact ⟨k + 1, by omega, rfl, by rw [htk] <;> rfl⟩
  · obtain rfl : k = s.length := by omega
    rw [List.take_length]
    repeat' (first|(apply OK_seq)|(apply thenQ_n)|(apply OK_region)|(apply OKx_nilK)|(apply blockQ_s)|(apply thenQ_e)|(apply OK_condF;exact rfl)|(apply OK_exit)|(apply OK_ret)|(apply OKx_move;(conv=>lhs;whnf)<;>exact rfl)|(apply OKx_assign;(conv=>lhs;whnf)<;>exact rfl)|(apply OKx_lenS;exact rfl)|(apply OKx_lss;exact rfl;exact rfl;all_goals (intro _; try (exfalso;omega))))
    all_goals (try (exfalso;omega))
    refine bodyQ_r1 (by ((conv=>lhs;whnf)<;>exact rfl)) ?_
    exact ⟨_, Ent.refl _ _, rfl⟩
section
variable {P : Program} {n : Nat} {w0 : World} {Q : Exit → Fm → List Res → Prop} {F : Fm} {L : List Res}
theorem OK_worldT {c : Code} (h : ∀ w, Hp w0.heap.size w0 w L → OK P n w0 Q c F L) : OK P n w0 Q c F L := OK.mk' fun w a hf hp => (h w hp).use w a hf hp
end
def sqB (xs ys : List ByteArray) (i k : Nat) : Bool := decide (xs.getD i ByteArray.empty = ys.getD k ByteArray.empty)
def TabR (xs ys : List ByteArray) (u : Value) (L : List Res) : Prop := ∃ (gd cd gp : Nat) (vs : List Value), u = .slice (some ⟨gd, 0, none⟩) (xs.length + 1) cd ∧ vs[xs.length]? = some (dSl gp ys.length) ∧ L = [.row 31 1 u (xs.length + 1) vs, dRow gp ys.length (levR (sqB xs ys) ys.length xs.length)]
set_option maxRecDepth 100000 in
set_option maxHeartbeats 4000000 in
theorem rtable_sat (va vb : Value) (xs ys : List ByteArray) (w : World) (hx : Strs w va xs) (hy : Strs w vb ys) (hN : xs.length ≤ 256) (hM : ys.length ≤ 256) : Sat Tryz.prog 99 [va, vb] w (TabR xs ys) := by
  have hxs := hx.sl
  have hys := hy.sl
  refine SatL.of 108 [4] Tryz.func99 (by kernel_rfl) (by kernel_rfl) rfl rfl rfl rfl ?_
  repeat' (first|(apply OK_seq)|(apply thenQ_n)|(apply OK_region)|(apply OKx_nilK)|(apply OK_block)|(apply OKx_assign;(conv=>lhs;whnf)<;>exact rfl))
  refine OK_loop2 5 6 [5, 6, 7, 8, 9, 10, 11, 12, 13, 14, 15, 16, 17, 18, 19, 20, 21, 22, 23, 24, 25, 26, 27, 28, 29, 30, 31, 32, 33, 34, 35, 36, 37, 38, 39, 40, 41, 42, 43, 44, 45, 46, 47, 48, 49, 50, 51, 52, 53, 54, 55, 56, 57, 58, 59, 60, 61, 62, 63, 64, 65, 66, 67, 68, 69, 70, 71, 72, 73, 74, 75, 76, 77, 78, 79, 80, 81, 82, 83, 84, 85, 86, 87, 88, 89, 90, 91, 92, 93, 94, 95, 96, 97, 98, 99, 100, 101, 102, 103, 104, 105, 106] (fun m v5 v6 L => ∃ (i c : Nat) (a : Option Addr) (vs : List Value), i + m = xs.length + 1 ∧ v5 = .slice a i c ∧ v6 = .int .i64 (i : Int) ∧ vs.length = i ∧ ((i = 0 ∧ L = [.row 31 1 (.slice a i c) i vs]) ∨ ∃ (p gp : Nat), i = p + 1 ∧ vs[p]? = some (dSl gp ys.length) ∧ L = [.row 31 1 (.slice a i c) i vs, dRow gp ys.length (levR (sqB xs ys) ys.length p)])) (xs.length + 1) _ (Ent.mk fun w1 h1 => h1.nil 31 1) ⟨0, 0, none, [], by omega, rfl, rfl, rfl, .inl ⟨rfl, rfl⟩⟩ ?_
  rintro m v5 v6 L G ⟨i, c, a, vs, hm, rfl, rfl, hvl, ⟨rfl, rfl⟩ | ⟨p, gp, rfl, hvp, rfl⟩⟩
  · repeat' (first|(apply OK_seq)|(apply thenQ_n)|(apply OK_region)|(apply OKx_gn; refine OKx_inc (a := ys.length) rfl rfl (by omega) ?_)|(refine OKx_make (N := ys.length + 1) rfl rfl rfl (by omega) (by omega) ?_; intro g7; rw [ints_rep0])|(apply OKx_nilK)|(apply OK_block)|(apply OK_condT;exact rfl)|(apply OK_skip)|(apply OKx_move;(conv=>lhs;whnf)<;>exact rfl)|(apply OKx_assign;(conv=>lhs;whnf)<;>exact rfl)|(apply OKx_lenR;(conv=>lhs;whnf)<;>exact rfl;(with_reducible assumption))|(apply OKx_leq;exact rfl;exact rfl;all_goals (intro _; try (exfalso;omega))))
    all_goals (try (exfalso;omega))
    refine OK_loop1 8 [8, 19, 20, 21, 22, 23, 24, 25, 26, 27, 28, 29, 30, 31, 32, 33, 34, 35, 36, 37, 38, 39, 40, 41, 42, 43, 44, 45, 46, 47, 48, 49, 50, 51, 52, 53, 54, 55, 56, 57, 58, 59, 60, 61, 62, 63, 64, 65, 66, 67, 68, 69, 70, 71, 72, 73, 74, 75, 76, 77, 78, 79, 80, 81, 82, 83, 84, 85, 86, 87, 88, 89, 90, 91, 92, 93, 94, 95, 96, 97, 98, 99, 100, 101, 102] (fun m2 v L => ∃ (j : Nat) (u : List Int), j + m2 = ys.length + 1 ∧ v = .int .i64 (j : Int) ∧ u.length = ys.length + 1 ∧ (∀ k, k < j → u.getD k 0 = (k : Int)) ∧ L = [dRow g7 ys.length u, .row 31 1 (.slice a 0 c) 0 vs]) (ys.length + 1) _ (Ent.refl _ _) ⟨0, _, by omega, rfl, List.length_replicate, fun k hk => absurd hk (by omega), rfl⟩ ?_
    rintro m2 v L G2 ⟨j, u, hm2, rfl, hul, hu, rfl⟩
    by_cases hj : j < ys.length + 1
    · repeat' (first|(apply OK_seq)|(apply thenQ_n)|(apply OK_region)|(apply OKx_nilK)|(apply OK_block)|(apply blockQ_n)|(apply OK_condT;exact rfl)|(apply OK_skip)|(apply OKx_move;(conv=>lhs;whnf)<;>exact rfl)|(apply OKx_assign;(conv=>lhs;whnf)<;>exact rfl)|(apply OKx_lenR;(conv=>lhs;whnf)<;>exact rfl;(with_reducible assumption))|(apply OKx_leq;exact rfl;exact rfl;all_goals (intro _; try (exfalso;omega)))|(apply OKx_eql;exact rfl;exact rfl;all_goals (intro _; try (exfalso;omega)))|(apply OKx_idxO;exact rfl;exact rfl;omega)|(apply OKx_inc;exact rfl;exact rfl;omega)|(apply OKx_stI;exact rfl;exact rfl; (apply atP;constructor);omega;exact rfl))
      all_goals (try (exfalso;omega))
      refine ⟨by (repeat' (first | refine agree_upd rfl ?_ | exact agree_over | exact agree_refl _ _ | refine agree_over2 rfl ?_)), m2 - 1, _, by omega, Ent.refl _ _, ?_⟩
      refine ⟨j + 1, u.set j (j : Int), by omega, rfl, by rw [List.length_set]; exact hul, fun k hk => ?_, rfl⟩
      rw [setI _ _ _ _ (by omega)]
      by_cases e : j = k
      · rw [if_pos e, e]
      · rw [if_neg e]; exact hu k (by omega)
    · obtain rfl : j = ys.length + 1 := by omega
      obtain rfl : u = levR (sqB xs ys) ys.length 0 := levR_ext _ _ 0 u hul (fun k hk => by rw [hu k hk, levE])
      obtain rfl : vs = [] := List.eq_nil_of_length_eq_zero hvl
      repeat' (first|(apply OK_seq)|(apply thenQ_n)|(apply OK_region)|(apply OKx_gb; refine OKx_append1 2 0 rfl rfl rfl rfl rfl (by omega) (by omega) ?_; intro gd cd)|(apply OKx_nilK)|(apply blockQ_n)|(apply blockQ_s)|(apply thenQ_e)|(apply OK_condF;exact rfl)|(apply OK_exit)|(apply OKx_move;(conv=>lhs;whnf)<;>exact rfl)|(apply OKx_assign;(conv=>lhs;whnf)<;>exact rfl)|(apply OKx_lenR;(conv=>lhs;whnf)<;>exact rfl;(with_reducible assumption))|(apply OKx_leq;exact rfl;exact rfl;all_goals (intro _; try (exfalso;omega)))|(apply OKx_inc;exact rfl;exact rfl;omega)|(apply OKx_slit1;(conv=>lhs;whnf)<;>exact rfl;exact rfl;intro _))
      all_goals (try (exfalso;omega))
      refine ⟨by (repeat' (first | refine agree_upd rfl ?_ | exact agree_over | exact agree_refl _ _ | refine agree_over2 rfl ?_)), m - 1, _, by omega, Ent.pick [2, 1] rfl, ?_⟩
      exact ⟨1, cd, some ⟨gd, 0, none⟩, [dSl g7 ys.length], by omega, rfl, rfl, rfl, .inr ⟨0, g7, rfl, rfl, rfl⟩⟩
  · by_cases hi : p + 1 < xs.length + 1
    · refine OK_worldT fun w1 hw1 => ?_
      obtain ⟨gd, cd, hform⟩ := hw1.rowForm 0 rfl (by omega)
      cases hform
      repeat' (first|(apply OK_seq)|(apply thenQ_n)|(apply OK_region)|(apply OKx_gn; refine OKx_inc (a := ys.length) rfl rfl (by omega) ?_)|(refine OKx_make (N := ys.length + 1) rfl rfl rfl (by omega) (by omega) ?_; intro g7; rw [ints_rep0])|(apply OKx_nilK)|(apply OK_block)|(apply OK_condT;exact rfl)|(apply OK_skip)|(apply OKx_move;(conv=>lhs;whnf)<;>exact rfl)|(apply OKx_assign;(conv=>lhs;whnf)<;>exact rfl)|(apply OKx_lenR;(conv=>lhs;whnf)<;>exact rfl;(with_reducible assumption))|(apply OKx_leq;exact rfl;exact rfl;all_goals (intro _; try (exfalso;omega))))
      all_goals (try (exfalso;omega))
      refine OK_loop1 8 [8, 19, 20, 21, 22, 23, 24, 25, 26, 27, 28, 29, 30, 31, 32, 33, 34, 35, 36, 37, 38, 39, 40, 41, 42, 43, 44, 45, 46, 47, 48, 49, 50, 51, 52, 53, 54, 55, 56, 57, 58, 59, 60, 61, 62, 63, 64, 65, 66, 67, 68, 69, 70, 71, 72, 73, 74, 75, 76, 77, 78, 79, 80, 81, 82, 83, 84, 85, 86, 87, 88, 89, 90, 91, 92, 93, 94, 95, 96, 97, 98, 99, 100, 101, 102] (fun m2 v L => ∃ (j : Nat) (u : List Int), j + m2 = ys.length + 1 ∧ v = .int .i64 (j : Int) ∧ u.length = ys.length + 1 ∧ (∀ k, k < j → u.getD k 0 = ((levE (sqB xs ys) (p + 1) k : Nat) : Int)) ∧ L = [dRow g7 ys.length u, .row 31 1 (.slice (some ⟨gd, 0, none⟩) (p + 1) c) (p + 1) vs, dRow gp ys.length (levR (sqB xs ys) ys.length p)]) (ys.length + 1) _ (Ent.refl _ _) ⟨0, _, by omega, rfl, List.length_replicate, fun k hk => absurd hk (by omega), rfl⟩ ?_
      rintro m2 v L G2 ⟨j, u, hm2, rfl, hul, hu, rfl⟩
      by_cases hj : j < ys.length + 1
      · cases j with
        | zero =>
          have hz : ((p + 1 : Nat) : Int) = ((levE (sqB xs ys) (p + 1) 0 : Nat) : Int) := by rw [levE]
          repeat' (first|(apply OK_seq)|(apply thenQ_n)|(apply OK_region)|(apply OKx_nilK)|(apply OK_block)|(apply blockQ_n)|(apply OK_condT;exact rfl)|(apply OK_condF;exact rfl)|(apply OK_skip)|(apply OKx_move;(conv=>lhs;whnf)<;>exact rfl)|(apply OKx_assign;(conv=>lhs;whnf)<;>exact rfl)|(apply OKx_lenR;(conv=>lhs;whnf)<;>exact rfl;(with_reducible assumption))|(apply OKx_leq;exact rfl;exact rfl;all_goals (intro _; try (exfalso;omega)))|(apply OKx_eql;exact rfl;exact rfl;all_goals (intro _; try (exfalso;omega)))|(apply OKx_idxO;exact rfl;exact rfl;omega)|(apply OKx_inc;exact rfl;exact rfl;omega)|(apply OKx_stI;exact rfl;exact rfl; (apply atP;constructor);omega;exact rfl))
          all_goals (try (exfalso;omega))
          refine ⟨by (repeat' (first | refine agree_upd rfl ?_ | exact agree_over | exact agree_refl _ _ | refine agree_over2 rfl ?_)), m2 - 1, _, by omega, Ent.refl _ _, ?_⟩
          refine ⟨1, u.set 0 ((p + 1 : Nat) : Int), by omega, rfl, by rw [List.length_set]; exact hul, fun k hk => ?_, rfl⟩
          obtain rfl : k = 0 := by omega
          rw [setI _ _ _ _ (by omega), if_pos rfl, hz]
        | succ j =>
          have e1 := levR_at (sqB xs ys) ys.length p j (by omega)
          have e2 := levR_at (sqB xs ys) ys.length p (j + 1) (by omega)
          have e3 := hu j (by omega)
          have e4 : (levR (sqB xs ys) ys.length p).getD (j + 1 - 1) 0 = ((levE (sqB xs ys) p j : Nat) : Int) := e1
          have e5 : u.getD (j + 1 - 1) 0 = ((levE (sqB xs ys) (p + 1) j : Nat) : Int) := e3
          have b1 := levE_le (sqB xs ys) p j
          have b2 := levE_le (sqB xs ys) p (j + 1)
          have b3 := levE_le (sqB xs ys) (p + 1) j
          have hstep : levE (sqB xs ys) (p + 1) (j + 1) = min (min (levE (sqB xs ys) p j + if sqB xs ys p j = true then 0 else 1) (levE (sqB xs ys) p (j + 1) + 1)) (levE (sqB xs ys) (p + 1) j + 1) := by rw [levE]
          have hX : (u.set (j + 1) (min ((levR (sqB xs ys) ys.length p).getD (j + 1) 0) (u.getD j 0) + 1)).getD (j + 1) 0 = (min ((levR (sqB xs ys) ys.length p).getD (j + 1) 0) (u.getD j 0) + 1) := by rw [setI _ _ _ _ (by omega), if_pos rfl]
          by_cases heq : xs.getD p ByteArray.empty = ys.getD j ByteArray.empty
          · rw [show sqB xs ys p j = true from decide_eq_true heq, if_pos rfl] at hstep
            have hY : min ((u.set (j + 1) (min ((levR (sqB xs ys) ys.length p).getD (j + 1) 0) (u.getD j 0) + 1)).getD (j + 1) 0) ((levR (sqB xs ys) ys.length p).getD j 0) = ((levE (sqB xs ys) (p + 1) (j + 1) : Nat) : Int) := by
              rw [hX, e1, e2, e3, hstep]
              omega
            repeat' (first|(apply OK_seq)|(apply thenQ_n)|(apply OK_region)|(apply OKx_gl; refine OKx_ldW 1 rfl rfl (by omega) hvp ?_)|(apply OKx_gs; refine OKx_stI (v := (min ((levR (sqB xs ys) ys.length p).getD (j + 1) 0) (u.getD j 0) + 1)) (L' := [dRow g7 ys.length (u.set (j + 1) (min ((levR (sqB xs ys) ys.length p).getD (j + 1) 0) (u.getD j 0) + 1)), .row 31 1 (.slice (some ⟨gd, 0, none⟩) (p + 1) c) (p + 1) vs, dRow gp ys.length (levR (sqB xs ys) ys.length p)]) 0 rfl rfl rfl (by omega) rfl ?_)|(refine OK_rid 9 ?_; refine OK_mix2 [] [0, 1, 2, 3, 4, 5, 6, 7, 8, 9, 10, 11, 12, 13, 14, 15, 16, 17] [] [] [18] [dRow g7 ys.length u, .row 31 1 (.slice (some ⟨gd, 0, none⟩) (p + 1) c) (p + 1) vs, dRow gp ys.length (levR (sqB xs ys) ys.length p)] (id := 9) (by kernel_rfl) (by kernel_rfl) rfl (by first | exact Ent.pick [0,1,2] rfl) (by ((try simp only [pickO]) <;> exact rfl)) (by ((try simp only [pickO, nthO, List.cons_append, List.nil_append]) <;> exact rfl)) (by ((try simp only [pickO]) <;> exact rfl)) (by ((try simp only [pickO]) <;> exact rfl)) (by ((try simp only [pickO, nthO, List.cons_append, List.nil_append]) <;> exact rfl)) ?_)|(refine OK_rid 10 ?_; refine OK_quiet (id := 10) (by kernel_rfl) (by kernel_rfl) ?_)|(refine OK_rid 11 ?_; refine OK_mix2 [] [0, 1, 2, 3, 4, 5, 6, 7, 8, 9, 10, 11, 12, 13, 14, 15, 16] [] [] [17] [dRow g7 ys.length (u.set (j + 1) (min ((levR (sqB xs ys) ys.length p).getD (j + 1) 0) (u.getD j 0) + 1)), .row 31 1 (.slice (some ⟨gd, 0, none⟩) (p + 1) c) (p + 1) vs, dRow gp ys.length (levR (sqB xs ys) ys.length p)] (id := 11) (by kernel_rfl) (by kernel_rfl) rfl (by first | exact Ent.pick [0,1,2] rfl) (by ((try simp only [pickO]) <;> exact rfl)) (by ((try simp only [pickO, nthO, List.cons_append, List.nil_append]) <;> exact rfl)) (by ((try simp only [pickO]) <;> exact rfl)) (by ((try simp only [pickO]) <;> exact rfl)) (by ((try simp only [pickO, nthO, List.cons_append, List.nil_append]) <;> exact rfl)) ?_)|(refine OK_rid 12 ?_; refine OK_mix [] [0, 1, 2, 3, 4, 5, 6, 7, 8, 9, 10, 11, 12, 13, 14, 15, 16, 17] [] [18] [] (id := 12) (by kernel_rfl) (by kernel_rfl) rfl (Ent.nil) (by ((try simp only [pickO]) <;> exact rfl)) (by ((try simp only [pickO, nthO, List.cons_append, List.nil_append]) <;> exact rfl)) (by ((try simp only [pickO]) <;> exact rfl)) (by ((try simp only [pickO, nthO, List.cons_append, List.nil_append]) <;> exact rfl)) ?_)|(apply OKx_nilK)|(apply OK_block)|(apply blockQ_n)|(apply OK_condT;exact rfl)|(apply OK_condF;exact rfl)|(apply OK_skip)|(apply OKx_move;(conv=>lhs;whnf)<;>exact rfl)|(apply OKx_assign;(conv=>lhs;whnf)<;>exact rfl)|(apply OKx_ldR;(conv=>lhs;whnf)<;>exact rfl;(with_reducible assumption))|(apply OKx_ldI;exact rfl; (apply atP;constructor);omega)|(apply OKx_lenR;(conv=>lhs;whnf)<;>exact rfl;(with_reducible assumption))|(apply OKx_leq;exact rfl;exact rfl;all_goals (intro _; try (exfalso;omega)))|(apply OKx_eql;exact rfl;exact rfl;all_goals (intro _; try (exfalso;omega)))|(apply OKx_seql;exact rfl;exact rfl; all_goals intro _)|(apply OKx_idxO;exact rfl;exact rfl;omega)|(apply OKx_idxR;(conv=>lhs;whnf)<;>exact rfl;(with_reducible assumption);exact rfl;omega;intro _ _)|(apply OKx_inc;exact rfl;exact rfl;omega)|(apply OKx_add;exact rfl;exact rfl;omega;omega)|(apply OKx_dec;exact rfl;exact rfl;omega;omega)|(apply OKx_min;exact rfl;exact rfl)|(apply OKx_stI;exact rfl;exact rfl; (apply atP;constructor);omega;exact rfl))
            all_goals (try (exfalso;omega))
            all_goals first
              | exact absurd heq (by assumption)
              | (refine ⟨by (repeat' (first | refine agree_upd rfl ?_ | exact agree_over | exact agree_refl _ _ | refine agree_over2 rfl ?_)), m2 - 1, _, by omega, Ent.refl _ _, ?_⟩
                 refine ⟨j + 1 + 1, (u.set (j + 1) (min ((levR (sqB xs ys) ys.length p).getD (j + 1) 0) (u.getD j 0) + 1)).set (j + 1) _, by omega, rfl, by rw [List.length_set, List.length_set]; exact hul, fun k hk => ?_, rfl⟩
                 rw [setI _ _ _ _ (by rw [List.length_set];omega)]
                 by_cases e : j + 1 = k
                 · rw [if_pos e, ← e]
                   exact hY
                 · rw [if_neg e, setI _ _ _ _ (by omega), if_neg e]
                   exact hu k (by omega))
          · rw [show sqB xs ys p j = false from decide_eq_false heq, if_neg (by decide)] at hstep
            have hY : min ((u.set (j + 1) (min ((levR (sqB xs ys) ys.length p).getD (j + 1) 0) (u.getD j 0) + 1)).getD (j + 1) 0) ((levR (sqB xs ys) ys.length p).getD j 0 + 1) = ((levE (sqB xs ys) (p + 1) (j + 1) : Nat) : Int) := by
              rw [hX, e1, e2, e3, hstep]
              omega
            repeat' (first|(apply OK_seq)|(apply thenQ_n)|(apply OK_region)|(apply OKx_gl; refine OKx_ldW 1 rfl rfl (by omega) hvp ?_)|(apply OKx_gs; refine OKx_stI (v := (min ((levR (sqB xs ys) ys.length p).getD (j + 1) 0) (u.getD j 0) + 1)) (L' := [dRow g7 ys.length (u.set (j + 1) (min ((levR (sqB xs ys) ys.length p).getD (j + 1) 0) (u.getD j 0) + 1)), .row 31 1 (.slice (some ⟨gd, 0, none⟩) (p + 1) c) (p + 1) vs, dRow gp ys.length (levR (sqB xs ys) ys.length p)]) 0 rfl rfl rfl (by omega) rfl ?_)|(refine OK_rid 9 ?_; refine OK_mix2 [] [0, 1, 2, 3, 4, 5, 6, 7, 8, 9, 10, 11, 12, 13, 14, 15, 16, 17] [] [] [18] [dRow g7 ys.length u, .row 31 1 (.slice (some ⟨gd, 0, none⟩) (p + 1) c) (p + 1) vs, dRow gp ys.length (levR (sqB xs ys) ys.length p)] (id := 9) (by kernel_rfl) (by kernel_rfl) rfl (by first | exact Ent.pick [0,1,2] rfl) (by ((try simp only [pickO]) <;> exact rfl)) (by ((try simp only [pickO, nthO, List.cons_append, List.nil_append]) <;> exact rfl)) (by ((try simp only [pickO]) <;> exact rfl)) (by ((try simp only [pickO]) <;> exact rfl)) (by ((try simp only [pickO, nthO, List.cons_append, List.nil_append]) <;> exact rfl)) ?_)|(refine OK_rid 10 ?_; refine OK_quiet (id := 10) (by kernel_rfl) (by kernel_rfl) ?_)|(refine OK_rid 11 ?_; refine OK_mix [] [0, 1, 2, 3, 4, 5, 6, 7, 8, 9, 10, 11, 12, 13, 14, 15, 16] [] [17] [] (id := 11) (by kernel_rfl) (by kernel_rfl) rfl (Ent.nil) (by ((try simp only [pickO]) <;> exact rfl)) (by ((try simp only [pickO, nthO, List.cons_append, List.nil_append]) <;> exact rfl)) (by ((try simp only [pickO]) <;> exact rfl)) (by ((try simp only [pickO, nthO, List.cons_append, List.nil_append]) <;> exact rfl)) ?_)|(refine OK_rid 12 ?_; refine OK_mix2 [] [0, 1, 2, 3, 4, 5, 6, 7, 8, 9, 10, 11, 12, 13, 14, 15, 16, 17] [] [] [18] [dRow g7 ys.length (u.set (j + 1) (min ((levR (sqB xs ys) ys.length p).getD (j + 1) 0) (u.getD j 0) + 1)), .row 31 1 (.slice (some ⟨gd, 0, none⟩) (p + 1) c) (p + 1) vs, dRow gp ys.length (levR (sqB xs ys) ys.length p)] (id := 12) (by kernel_rfl) (by kernel_rfl) rfl (by first | exact Ent.pick [0,1,2] rfl) (by ((try simp only [pickO]) <;> exact rfl)) (by ((try simp only [pickO, nthO, List.cons_append, List.nil_append]) <;> exact rfl)) (by ((try simp only [pickO]) <;> exact rfl)) (by ((try simp only [pickO]) <;> exact rfl)) (by ((try simp only [pickO, nthO, List.cons_append, List.nil_append]) <;> exact rfl)) ?_)|(apply OKx_nilK)|(apply OK_block)|(apply blockQ_n)|(apply OK_condT;exact rfl)|(apply OK_condF;exact rfl)|(apply OK_skip)|(apply OKx_move;(conv=>lhs;whnf)<;>exact rfl)|(apply OKx_assign;(conv=>lhs;whnf)<;>exact rfl)|(apply OKx_ldR;(conv=>lhs;whnf)<;>exact rfl;(with_reducible assumption))|(apply OKx_ldI;exact rfl; (apply atP;constructor);omega)|(apply OKx_lenR;(conv=>lhs;whnf)<;>exact rfl;(with_reducible assumption))|(apply OKx_leq;exact rfl;exact rfl;all_goals (intro _; try (exfalso;omega)))|(apply OKx_eql;exact rfl;exact rfl;all_goals (intro _; try (exfalso;omega)))|(apply OKx_seql;exact rfl;exact rfl; all_goals intro _)|(apply OKx_idxO;exact rfl;exact rfl;omega)|(apply OKx_idxR;(conv=>lhs;whnf)<;>exact rfl;(with_reducible assumption);exact rfl;omega;intro _ _)|(apply OKx_inc;exact rfl;exact rfl;omega)|(apply OKx_add;exact rfl;exact rfl;omega;omega)|(apply OKx_dec;exact rfl;exact rfl;omega;omega)|(apply OKx_min;exact rfl;exact rfl)|(apply OKx_stI;exact rfl;exact rfl; (apply atP;constructor);omega;exact rfl))
            all_goals (try (exfalso;omega))
            all_goals first
              | exact absurd (by assumption) heq
              | (refine ⟨by (repeat' (first | refine agree_upd rfl ?_ | exact agree_over | exact agree_refl _ _ | refine agree_over2 rfl ?_)), m2 - 1, _, by omega, Ent.refl _ _, ?_⟩
                 refine ⟨j + 1 + 1, (u.set (j + 1) (min ((levR (sqB xs ys) ys.length p).getD (j + 1) 0) (u.getD j 0) + 1)).set (j + 1) _, by omega, rfl, by rw [List.length_set, List.length_set]; exact hul, fun k hk => ?_, rfl⟩
                 rw [setI _ _ _ _ (by rw [List.length_set];omega)]
                 by_cases e : j + 1 = k
                 · rw [if_pos e, ← e]
                   exact hY
                 · rw [if_neg e, setI _ _ _ _ (by omega), if_neg e]
                   exact hu k (by omega))
      · obtain rfl : j = ys.length + 1 := by omega
        obtain rfl : u = levR (sqB xs ys) ys.length (p + 1) := levR_ext _ _ (p + 1) u hul (fun k hk => hu k hk)
        repeat' (first|(apply OK_seq)|(apply thenQ_n)|(apply OK_region)|(apply OKx_gb; refine OKx_append1 2 0 rfl rfl rfl rfl rfl (by omega) (by omega) ?_; intro gd2 cd2)|(apply OKx_nilK)|(apply blockQ_n)|(apply blockQ_s)|(apply thenQ_e)|(apply OK_condF;exact rfl)|(apply OK_exit)|(apply OKx_move;(conv=>lhs;whnf)<;>exact rfl)|(apply OKx_assign;(conv=>lhs;whnf)<;>exact rfl)|(apply OKx_lenR;(conv=>lhs;whnf)<;>exact rfl;(with_reducible assumption))|(apply OKx_leq;exact rfl;exact rfl;all_goals (intro _; try (exfalso;omega)))|(apply OKx_inc;exact rfl;exact rfl;omega)|(apply OKx_slit1;(conv=>lhs;whnf)<;>exact rfl;exact rfl;intro _))
        all_goals (try (exfalso;omega))
        refine ⟨by (repeat' (first | refine agree_upd rfl ?_ | exact agree_over | exact agree_refl _ _ | refine agree_over2 rfl ?_)), m - 1, _, by omega, Ent.pick [2, 1] rfl, ?_⟩
        exact ⟨p + 1 + 1, cd2, some ⟨gd2, 0, none⟩, vs ++ [dSl g7 ys.length], by omega, rfl, rfl, by simp [hvl], .inr ⟨p + 1, g7, rfl, by rw [List.getElem?_append_right (by omega), hvl, Nat.sub_self]; rfl, rfl⟩⟩
    · obtain rfl : p = xs.length := by omega
      refine OK_worldT fun w1 hw1 => ?_
      obtain ⟨gd, cd, hform⟩ := hw1.rowForm 0 rfl (by omega)
      cases hform
      repeat' (first|(apply OK_seq)|(apply thenQ_n)|(apply OK_region)|(apply OKx_nilK)|(apply blockQ_s)|(apply thenQ_e)|(apply OK_condF;exact rfl)|(apply OK_exit)|(apply OK_ret)|(apply OKx_move;(conv=>lhs;whnf)<;>exact rfl)|(apply OKx_assign;(conv=>lhs;whnf)<;>exact rfl)|(apply OKx_lenR;(conv=>lhs;whnf)<;>exact rfl;(with_reducible assumption))|(apply OKx_leq;exact rfl;exact rfl;all_goals (intro _; try (exfalso;omega))))
      all_goals (try (exfalso;omega))
      refine bodyQ_r1 (by ((conv=>lhs;whnf)<;>exact rfl)) ?_
      exact ⟨_, Ent.refl _ _, gd, _, gp, vs, rfl, hvp, rfl⟩
theorem levE_ones (a b : List UInt8) : levE (sqB (onesL a) (onesL b)) a.length b.length = lev a b := by
  unfold lev levP
  refine levE_congr _ _ _ _ fun i k hi hk => ?_
  have e1 : (onesL a).getD i ByteArray.empty = bOf [a.getD i 0] := by
    rw [getD_lt _ _ _ (by rw [onesL_len]; exact hi), getD_lt _ _ _ hi]
    simp [onesL]
  have e2 : (onesL b).getD k ByteArray.empty = bOf [b.getD k 0] := by
    rw [getD_lt _ _ _ (by rw [onesL_len]; exact hk), getD_lt _ _ _ hk]
    simp [onesL]
  unfold sqB byEq
  rw [e1, e2]
  refine decide_eq_decide.2 ⟨fun h => ?_, fun h => by rw [h]⟩
  have := congrArg (fun s => s.data.toList) h
  simpa [bOf] using this
set_option maxRecDepth 100000 in
set_option maxHeartbeats 4000000 in
theorem rLists_sat (va vb : Value) (xs ys : List ByteArray) (w : World) (hx : Strs w va xs) (hy : Strs w vb ys) : SatV Tryz.prog 81 [va, vb] w (.tuple #[.int .i64 (if 256 < max xs.length ys.length then 0 else ((levE (sqB xs ys) xs.length ys.length : Nat) : Int)), .int .i64 (if 256 < max xs.length ys.length then 4 else 0)]) := by
  have hxs := hx.sl
  have hys := hy.sl
  have hxb := hxs.bound
  have hyb := hys.bound
  by_cases h : 256 < max xs.length ys.length
  · rw [if_pos h, if_pos h]
    refine SatL.of 25 [4, 5] Tryz.func81 (by kernel_rfl) (by kernel_rfl) rfl rfl rfl rfl ?_
    repeat' (first|(apply OK_seq)|(apply thenQ_n)|(apply OK_region)|(apply OKx_nilK)|(apply thenQ_r)|(apply OK_condT;exact rfl)|(apply OK_ret)|(apply OKx_move;(conv=>lhs;whnf)<;>exact rfl)|(apply OKx_assign;(conv=>lhs;whnf)<;>exact rfl)|(apply OKx_lenR;(conv=>lhs;whnf)<;>exact rfl;(with_reducible assumption))|(apply OKx_gtr;exact rfl;exact rfl;all_goals (intro _; try (exfalso;omega)))|(apply OKx_pickT;exact rfl;(conv=>lhs;whnf)<;>exact rfl)|(apply OKx_pickF;exact rfl;(conv=>lhs;whnf)<;>exact rfl)|(apply OKx_guardT;exact rfl;exact rfl)|(apply OKx_guardF;exact rfl;exact rfl))
    all_goals (try (exfalso;omega))
    all_goals
      refine bodyQ_r2 (by ((conv=>lhs;whnf)<;>exact rfl)) (by ((conv=>lhs;whnf)<;>exact rfl)) ?_
      exact ⟨_, Ent.nil, rfl, rfl⟩
  · rw [if_neg h, if_neg h]
    have hT := fun w1 (hb : Below w.heap.size w w1) => rtable_sat va vb xs ys w1 (hx.below hb) (hy.below hb) (by omega) (by omega)
    have e1 := levR_at (sqB xs ys) ys.length xs.length ys.length (by omega)
    rw [← e1]
    refine SatL.of 25 [4, 5] Tryz.func81 (by kernel_rfl) (by kernel_rfl) rfl rfl rfl rfl ?_
    repeat' (first|(apply OK_seq)|(apply thenQ_n)|(apply OK_region)|(apply OKx_gc 99;exact rfl; refine OKx_call (f := 99) rfl rfl (fun w1 hp => hT w1 hp.below) ?_; rintro _ _ ⟨gd, cd, gp, vs, rfl, hvp, rfl⟩; rw [List.cons_append, List.cons_append, List.nil_append])|(apply OKx_gl; refine OKx_ldW 0 rfl rfl (by omega) hvp ?_)|(apply OKx_nilK)|(apply OK_condF;exact rfl)|(apply OK_skip)|(apply OK_ret)|(apply OKx_move;(conv=>lhs;whnf)<;>exact rfl)|(apply OKx_assign;(conv=>lhs;whnf)<;>exact rfl)|(apply OKx_ldI;exact rfl; (apply atP;constructor);omega)|(apply OKx_lenR;(conv=>lhs;whnf)<;>exact rfl;(with_reducible assumption))|(apply OKx_gtr;exact rfl;exact rfl;all_goals (intro _; try (exfalso;omega)))|(apply OKx_idxO;exact rfl;exact rfl;omega)|(apply OKx_pickF;exact rfl;(conv=>lhs;whnf)<;>exact rfl)|(apply OKx_guardT;exact rfl;exact rfl))
    all_goals (try (exfalso;omega))
    refine bodyQ_r2 (by ((conv=>lhs;whnf)<;>exact rfl)) (by ((conv=>lhs;whnf)<;>exact rfl)) ?_
    exact ⟨_, Ent.nil, rfl, rfl⟩
set_option maxRecDepth 100000 in
set_option maxHeartbeats 4000000 in
theorem rDistance_sat (a b : List UInt8) (w : World) (ha : a.length ≤ 1000000) (hb : b.length ≤ 1000000) : SatV Tryz.prog 60 [.string (bOf a), .string (bOf b)] w (.tuple #[.int .i64 (if 256 < max a.length b.length then 0 else ((lev a b : Nat) : Int)), .int .i64 (dstE a b)]) := by
  have h1 := fun w1 => rbytes_sat a w1 ha
  have h2 := fun w1 => rbytes_sat b w1 hb
  have hz : ∀ (s : List UInt8), ∀ x ∈ onesL s, x.size ≤ 140737488355328 := fun s x hx => by
    obtain ⟨c, _, rfl⟩ := List.mem_map.1 hx
    rw [bOf_size]
    show 1 ≤ 140737488355328
    omega
  have hL := fun va vb w1 h1 h2 => rLists_sat va vb (onesL a) (onesL b) w1 h1 h2
  rw [onesL_len, onesL_len, levE_ones] at hL
  unfold dstE
  refine SatL.of 13 [4, 5] Tryz.func60 (by kernel_rfl) (by kernel_rfl) rfl rfl rfl rfl ?_
  repeat' (first|(apply OK_seq)|(apply thenQ_n)|(apply OK_region)|(apply OKx_gc 82;exact rfl; refine OKx_call (f := 82) rfl rfl (fun w1 hp => h1 w1) ?_; rintro u1 _ rfl; rw [List.append_nil])|(apply OKx_gc 82;exact rfl; refine OKx_call (f := 82) rfl rfl (fun w1 hp => h2 w1) ?_; rintro u2 _ rfl; rw [List.cons_append, List.nil_append])|(apply OKx_gc 81;exact rfl; refine OKx_callV (f := 81) rfl rfl rfl (fun w1 hp => hL _ _ w1 (hp.strs 1 rfl (by omega) (hz a)) (hp.strs 0 rfl (by omega) (hz b))) ?_)|(apply OKx_nilK)|(apply OK_ret)|(apply OKx_move;(conv=>lhs;whnf)<;>exact rfl)|(apply OKx_assign;(conv=>lhs;whnf)<;>exact rfl)|(apply OKx_extract;exact rfl;(conv=>lhs;whnf)<;>exact rfl))
  refine bodyQ_r2 (by ((conv=>lhs;whnf)<;>exact rfl)) (by ((conv=>lhs;whnf)<;>exact rfl)) ?_
  exact ⟨_, Ent.nil, rfl, rfl⟩
end Go.Proofs.YthnlnffmmioapaaGreatDoor
