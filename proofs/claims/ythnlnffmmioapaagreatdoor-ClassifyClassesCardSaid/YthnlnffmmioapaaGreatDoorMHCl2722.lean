/-
  Part 22 of the proof: Gw27, Gv27. No statement of the seat is proved here.
-/
import Derived.Test.YthnlnffmmioapaaGreatDoorMHCl2721
namespace Go.Proofs.YthnlnffmmioapaaGreatDoor
open Go.RowKit
theorem any_no {α : Type} {l : List α} {f : α → Bool} {d : α} (h : ∀ i, i < l.length → f (l.getD i d) = false) : l.any f = false := by
  rw [List.any_eq_false]
  intro x hx
  obtain ⟨i, hi, rfl⟩ := List.getElem_of_mem hx
  have := h i hi
  rw [getD_lt _ _ _ hi] at this
  rw [this]
  decide
theorem any_yes {α : Type} {l : List α} {f : α → Bool} {d : α} {i : Nat} (hi : i < l.length) (h : f (l.getD i d) = true) : l.any f = true :=
  List.any_eq_true.2 ⟨l.getD i d, by rw [getD_lt _ _ _ hi]; exact List.getElem_mem hi, h⟩
def grW1 (x : ByteArray) : Bool := (decide (12 < x.size) && decide (x.size ≤ 64)) || decide (66 < x.size)
theorem grW1_iff {x : ByteArray} : grW1 x = true ↔ (12 < x.size ∧ x.size ≤ 64) ∨ 66 < x.size := by
  unfold grW1
  simp only [Bool.or_eq_true, Bool.and_eq_true, decide_eq_true_eq]
theorem grW1_no {x : ByteArray} (h : ¬((12 < x.size ∧ x.size ≤ 64) ∨ 66 < x.size)) : grW1 x = false := Bool.eq_false_iff.2 fun hh => h (grW1_iff.1 hh)
theorem grtW_yes {l : List ByteArray} (h : (8 < l.length ∧ l.length ≤ 1024) ∨ 1026 < l.length) : grtW l = true := by
  unfold grtW
  rw [show (decide (8 < l.length) && decide (l.length ≤ 1024) || decide (1026 < l.length)) = true by
    simp only [Bool.or_eq_true, Bool.and_eq_true, decide_eq_true_eq]; exact h]
  rfl
theorem grtW_any {l : List ByteArray} (h : ¬((8 < l.length ∧ l.length ≤ 1024) ∨ 1026 < l.length)) : grtW l = l.any grW1 := by
  unfold grtW
  rw [show (decide (8 < l.length) && decide (l.length ≤ 1024) || decide (1026 < l.length)) = false from Bool.eq_false_iff.2 fun hh => h (by
    simpa only [Bool.or_eq_true, Bool.and_eq_true, decide_eq_true_eq] using hh)]
  rfl
set_option maxRecDepth 100000 in
set_option maxHeartbeats 4000000 in
theorem greatW_sat (v : Value) (l : List ByteArray) (w : World) (h : Strs w v l) : SatV Tryz.prog 6 [v] w (.bool (grtW l)) := by
  have hsl := h.sl
  have hb := hsl.bound
  by_cases h0 : (8 < l.length ∧ l.length ≤ 1024) ∨ 1026 < l.length
  · rw [grtW_yes h0]
    refine SatL.of 45 [2] Tryz.func6 (by kernel_rfl) (by kernel_rfl) rfl rfl rfl rfl ?_
    repeat' (first|(apply OK_seq)|(apply thenQ_n)|(apply OK_region)|(apply OKx_nilK)|(apply thenQ_r)|(apply OK_condT;exact rfl)|(apply OK_ret)|(apply OKx_move;(conv=>lhs;whnf)<;>exact rfl)|(apply OKx_assign;(conv=>lhs;whnf)<;>exact rfl)|(apply OKx_lenR;(conv=>lhs;whnf)<;>exact rfl;(with_reducible assumption))|(apply OKx_leq;exact rfl;exact rfl;all_goals (intro _; try (exfalso;omega)))|(apply OKx_gtr;exact rfl;exact rfl;all_goals (intro _; try (exfalso;omega)))|(apply OKx_pickT;exact rfl;(conv=>lhs;whnf)<;>exact rfl)|(apply OKx_pickF;exact rfl;(conv=>lhs;whnf)<;>exact rfl)|(apply OKx_guardT;exact rfl;exact rfl)|(apply OKx_guardF;exact rfl;exact rfl))
    all_goals (try (exfalso;omega))
    all_goals
      refine bodyQ_r1 (by ((conv=>lhs;whnf)<;>exact rfl)) ?_
      exact ⟨_, Ent.nil, rfl, rfl⟩
  rw [grtW_any h0]
  refine SatL.of 45 [2] Tryz.func6 (by kernel_rfl) (by kernel_rfl) rfl rfl rfl rfl ?_
  repeat' (first|(apply OK_seq)|(apply thenQ_n)|(apply OK_region)|(apply OKx_nilK)|(apply OK_block)|(apply OK_condF;exact rfl)|(apply OK_skip)|(apply OKx_move;(conv=>lhs;whnf)<;>exact rfl)|(apply OKx_assign;(conv=>lhs;whnf)<;>exact rfl)|(apply OKx_lenR;(conv=>lhs;whnf)<;>exact rfl;(with_reducible assumption))|(apply OKx_leq;exact rfl;exact rfl;all_goals (intro _; try (exfalso;omega)))|(apply OKx_gtr;exact rfl;exact rfl;all_goals (intro _; try (exfalso;omega)))|(apply OKx_pickT;exact rfl;(conv=>lhs;whnf)<;>exact rfl)|(apply OKx_pickF;exact rfl;(conv=>lhs;whnf)<;>exact rfl)|(apply OKx_guardT;exact rfl;exact rfl)|(apply OKx_guardF;exact rfl;exact rfl))
  all_goals (try (exfalso;omega))
  all_goals
    refine OK_loop1 3 [2, 3, 17, 18, 19, 20, 21, 22, 23, 24, 25, 26, 27, 28, 29, 30, 31, 32, 33, 34, 35, 36, 37, 38, 39, 40, 41, 42, 43, 44] (fun m v L => ∃ j : Nat, j + m = l.length ∧ v = .int .i64 (j : Int) ∧ (∀ i, i < j → grW1 (l.getD i ByteArray.empty) = false) ∧ L = []) l.length _ (Ent.refl _ _) ⟨0, by omega, rfl, fun i hi => absurd hi (by omega), rfl⟩ ?_
    rintro m v' L G ⟨j, hm, rfl, H, rfl⟩
    by_cases hj : j < l.length
    · repeat' (first|(apply OK_seq)|(apply thenQ_n)|(apply OK_region)|(apply OKx_nilK)|(apply OK_block)|(apply blockQ_n)|(apply thenQ_r)|(apply blockQ_r)|(apply OK_condT;exact rfl)|(apply OK_condF;exact rfl)|(apply OK_skip)|(apply OK_ret)|(apply OKx_move;(conv=>lhs;whnf)<;>exact rfl)|(apply OKx_assign;(conv=>lhs;whnf)<;>exact rfl)|(apply OKx_ldR;(conv=>lhs;whnf)<;>exact rfl;(with_reducible assumption))|(apply OKx_lenR;(conv=>lhs;whnf)<;>exact rfl;(with_reducible assumption))|(apply OKx_lenS;exact rfl)|(apply OKx_lss;exact rfl;exact rfl;all_goals (intro _; try (exfalso;omega)))|(apply OKx_leq;exact rfl;exact rfl;all_goals (intro _; try (exfalso;omega)))|(apply OKx_gtr;exact rfl;exact rfl;all_goals (intro _; try (exfalso;omega)))|(apply OKx_idxR;(conv=>lhs;whnf)<;>exact rfl;(with_reducible assumption);exact rfl;omega;intro _ _)|(apply OKx_inc;exact rfl;exact rfl;omega)|(apply OKx_pickT;exact rfl;(conv=>lhs;whnf)<;>exact rfl)|(apply OKx_pickF;exact rfl;(conv=>lhs;whnf)<;>exact rfl)|(apply OKx_guardT;exact rfl;exact rfl)|(apply OKx_guardF;exact rfl;exact rfl))
      all_goals (try (exfalso;omega))
      all_goals first
        | ((refine bodyQ_r1 (by ((conv=>lhs;whnf)<;>exact rfl)) ?_)
           exact ⟨_, Ent.nil, bool_eq (any_yes (d := ByteArray.empty) hj (grW1_iff.2 (by omega))).symm, rfl⟩)
        | (refine ⟨by (repeat' (first | refine agree_upd rfl ?_ | exact agree_over | exact agree_refl _ _ | refine agree_over2 rfl ?_)), m - 1, _, by omega, Ent.refl _ _, ?_⟩
           refine ⟨j + 1, by omega, rfl, fun i hi => ?_, rfl⟩
           by_cases e : i = j
           · subst e; exact grW1_no (by omega)
           · exact H i (by omega))
    · obtain rfl : j = l.length := by omega
      repeat' (first|(apply OK_seq)|(apply thenQ_n)|(apply OK_region)|(apply OKx_nilK)|(apply blockQ_s)|(apply thenQ_e)|(apply OK_condF;exact rfl)|(apply OK_exit)|(apply OK_ret)|(apply OKx_move;(conv=>lhs;whnf)<;>exact rfl)|(apply OKx_assign;(conv=>lhs;whnf)<;>exact rfl)|(apply OKx_lenR;(conv=>lhs;whnf)<;>exact rfl;(with_reducible assumption))|(apply OKx_lss;exact rfl;exact rfl;all_goals (intro _; try (exfalso;omega))))
      all_goals (try (exfalso;omega))
      refine bodyQ_r1 (by ((conv=>lhs;whnf)<;>exact rfl)) ?_
      exact ⟨_, Ent.nil, bool_eq (any_no H).symm, rfl⟩
def grR1 (r : Rdn) : Bool := grtW r.words || decide (36 < r.src.length)
theorem grtR_yes {l : List Rdn} (h : (6 < l.length ∧ l.length ≤ 4096) ∨ 4098 < l.length) : grtR l = true := by
  unfold grtR
  rw [show (decide (6 < l.length) && decide (l.length ≤ 4096) || decide (4098 < l.length)) = true by
    simp only [Bool.or_eq_true, Bool.and_eq_true, decide_eq_true_eq]; exact h]
  rfl
theorem grtR_any {l : List Rdn} (h : ¬((6 < l.length ∧ l.length ≤ 4096) ∨ 4098 < l.length)) : grtR l = l.any grR1 := by
  unfold grtR
  rw [show (decide (6 < l.length) && decide (l.length ≤ 4096) || decide (4098 < l.length)) = false from Bool.eq_false_iff.2 fun hh => h (by
    simpa only [Bool.or_eq_true, Bool.and_eq_true, decide_eq_true_eq] using hh)]
  rfl
set_option maxRecDepth 100000 in
set_option maxHeartbeats 4000000 in
theorem great27_sat (v : Value) (l : List Rdn) (w : World) (h : Rdns w v l) : SatV Tryz.prog 7 [v] w (.bool (grtR l)) := by
  obtain ⟨g, hS, hE⟩ := h
  obtain ⟨hb, la, lc, rfl, _⟩ := id hS
  by_cases h0 : (6 < l.length ∧ l.length ≤ 4096) ∨ 4098 < l.length
  · rw [grtR_yes h0]
    refine SatL.of 38 [2] Tryz.func7 (by kernel_rfl) (by kernel_rfl) rfl rfl rfl rfl ?_
    repeat' (first|(apply OK_seq)|(apply thenQ_n)|(apply OK_region)|(apply OKx_nilK)|(apply thenQ_r)|(apply OK_condT;exact rfl)|(apply OK_ret)|(apply OKx_move;(conv=>lhs;whnf)<;>exact rfl)|(apply OKx_assign;(conv=>lhs;whnf)<;>exact rfl)|(apply OKx_len;exact rfl)|(apply OKx_leq;exact rfl;exact rfl;all_goals (intro _; try (exfalso;omega)))|(apply OKx_gtr;exact rfl;exact rfl;all_goals (intro _; try (exfalso;omega)))|(apply OKx_pickT;exact rfl;(conv=>lhs;whnf)<;>exact rfl)|(apply OKx_pickF;exact rfl;(conv=>lhs;whnf)<;>exact rfl)|(apply OKx_guardT;exact rfl;exact rfl)|(apply OKx_guardF;exact rfl;exact rfl))
    all_goals (try (exfalso;omega))
    all_goals
      refine bodyQ_r1 (by ((conv=>lhs;whnf)<;>exact rfl)) ?_
      exact ⟨_, Ent.nil, rfl, rfl⟩
  rw [grtR_any h0]
  refine SatL.of 38 [2] Tryz.func7 (by kernel_rfl) (by kernel_rfl) rfl rfl rfl rfl ?_
  repeat' (first|(apply OK_seq)|(apply thenQ_n)|(apply OK_region)|(apply OKx_nilK)|(apply OK_block)|(apply OK_condF;exact rfl)|(apply OK_skip)|(apply OKx_move;(conv=>lhs;whnf)<;>exact rfl)|(apply OKx_assign;(conv=>lhs;whnf)<;>exact rfl)|(apply OKx_len;exact rfl)|(apply OKx_leq;exact rfl;exact rfl;all_goals (intro _; try (exfalso;omega)))|(apply OKx_gtr;exact rfl;exact rfl;all_goals (intro _; try (exfalso;omega)))|(apply OKx_pickT;exact rfl;(conv=>lhs;whnf)<;>exact rfl)|(apply OKx_pickF;exact rfl;(conv=>lhs;whnf)<;>exact rfl)|(apply OKx_guardT;exact rfl;exact rfl)|(apply OKx_guardF;exact rfl;exact rfl))
  all_goals (try (exfalso;omega))
  all_goals
    refine OK_loop1 3 [2, 3, 17, 18, 19, 20, 21, 22, 23, 24, 25, 26, 27, 28, 29, 30, 31, 32, 33, 34, 35, 36, 37] (fun m v L => ∃ j : Nat, j + m = l.length ∧ v = .int .i64 (j : Int) ∧ (∀ i, i < j → grR1 (l.getD i default) = false) ∧ L = []) l.length _ (Ent.refl _ _) ⟨0, by omega, rfl, fun i hi => absurd hi (by omega), rfl⟩ ?_
    rintro m v' L G ⟨j, hm, rfl, H, rfl⟩
    by_cases hj : j < l.length
    · obtain ⟨wv, sv, hag, hWv, hSv⟩ := hE j hj
      have hag2 := Value.agg.inj hag
      simp only [Array.mk.injEq, List.cons.injEq, and_true] at hag2
      obtain ⟨e0, e1⟩ := hag2
      rw [← e0] at hWv
      rw [← e1] at hSv
      have hssl := hSv.sl
      have hgw := fun w1 (hb1 : Below w.heap.size w w1) => greatW_sat _ l[j].words w1 (hWv.below hb1)
      have hd : l.getD j default = l[j] := getD_lt _ _ _ hj
      repeat' (first|(apply OK_seq)|(apply thenQ_n)|(apply OK_region)|(apply OKx_gi; refine OKx_idxR2 (i := j) rfl hS rfl hj ?_; intro pp hpp)|(apply OKx_gc 6;exact rfl; refine OKx_callB (f := 6) rfl rfl rfl (fun w1 hp => hgw w1 hp.below) ?_ ?_ <;> intro hq)|(apply OKx_nilK)|(apply OK_block)|(apply blockQ_n)|(apply thenQ_r)|(apply blockQ_r)|(apply OK_condT;exact rfl)|(apply OK_condF;exact rfl)|(apply OK_skip)|(apply OK_ret)|(apply OKx_move;(conv=>lhs;whnf)<;>exact rfl)|(apply OKx_assign;(conv=>lhs;whnf)<;>exact rfl)|(apply OKx_ldR;(conv=>lhs;whnf)<;>exact rfl;(with_reducible assumption))|(apply OKx_len;exact rfl)|(apply OKx_lenR;(conv=>lhs;whnf)<;>exact rfl;(with_reducible assumption))|(apply OKx_lss;exact rfl;exact rfl;all_goals (intro _; try (exfalso;omega)))|(apply OKx_gtr;exact rfl;exact rfl;all_goals (intro _; try (exfalso;omega)))|(apply OKx_fldR;(conv=>lhs;whnf)<;>exact rfl;(with_reducible assumption); decide;intro _ _)|(apply OKx_inc;exact rfl;exact rfl;omega)|(apply OKx_pickT;exact rfl;(conv=>lhs;whnf)<;>exact rfl)|(apply OKx_pickF;exact rfl;(conv=>lhs;whnf)<;>exact rfl)|(apply OKx_guardT;exact rfl;exact rfl)|(apply OKx_guardF;exact rfl;exact rfl))
      all_goals (try (exfalso;omega))
      all_goals first
        | ((refine bodyQ_r1 (by ((conv=>lhs;whnf)<;>exact rfl)) ?_)
           refine ⟨_, Ent.nil, bool_eq (any_yes (d := default) hj ?_).symm, rfl⟩
           rw [hd]
           unfold grR1
           first
             | (rw [hq]; rfl)
             | (rw [decide_eq_true (by omega), Bool.or_true]))
        | (refine ⟨by (repeat' (first | refine agree_upd rfl ?_ | exact agree_over | exact agree_refl _ _ | refine agree_over2 rfl ?_)), m - 1, _, by omega, Ent.refl _ _, ?_⟩
           refine ⟨j + 1, by omega, rfl, fun i hi => ?_, rfl⟩
           by_cases e : i = j
           · subst e
             rw [hd]
             unfold grR1
             rw [hq, decide_eq_false (by omega)]
             rfl
           · exact H i (by omega))
    · obtain rfl : j = l.length := by omega
      repeat' (first|(apply OK_seq)|(apply thenQ_n)|(apply OK_region)|(apply OKx_nilK)|(apply blockQ_s)|(apply thenQ_e)|(apply OK_condF;exact rfl)|(apply OK_exit)|(apply OK_ret)|(apply OKx_move;(conv=>lhs;whnf)<;>exact rfl)|(apply OKx_assign;(conv=>lhs;whnf)<;>exact rfl)|(apply OKx_len;exact rfl)|(apply OKx_lss;exact rfl;exact rfl;all_goals (intro _; try (exfalso;omega))))
      all_goals (try (exfalso;omega))
      refine bodyQ_r1 (by ((conv=>lhs;whnf)<;>exact rfl)) ?_
      exact ⟨_, Ent.nil, bool_eq (any_no H).symm, rfl⟩
def sizB (x : Cnd) (d m : Nat) : Bool := decide (x.depth ≤ d) && decide (x.cnt ≤ m)
def sizN (x : Cnd) (d m : Nat) : Nat := if sizB x d m = true then x.cnt else 0
def Siz1 (d : Nat) : Prop := ∀ (x : Cnd) (m : Nat) (v : Value) (w : World), Exp w x v → m ≤ 100000 → SatV Tryz.prog 25 [v, .int .i64 (d : Int), .int .i64 (m : Int)] w (.tuple #[.int .i64 (sizN x d m : Int), .bool (sizB x d m)])
theorem sizB_iff {x : Cnd} {d m : Nat} : sizB x d m = true ↔ x.depth ≤ d ∧ x.cnt ≤ m := by
  unfold sizB
  rw [Bool.and_eq_true, decide_eq_true_eq, decide_eq_true_eq]
theorem sizB_no {x : Cnd} {d m : Nat} (h : ¬(x.depth ≤ d ∧ x.cnt ≤ m)) : sizB x d m = false := Bool.eq_false_iff.2 fun hh => h (sizB_iff.1 hh)
theorem siz_no {x : Cnd} {d m : Nat} (h : ¬(x.depth ≤ d ∧ x.cnt ≤ m)) : Value.tuple #[.int .i64 (sizN x d m : Int), .bool (sizB x d m)] = .tuple #[.int .i64 0, .bool false] := by
  unfold sizN
  rw [sizB_no h]
  rfl
theorem siz_yes {x : Cnd} {d m : Nat} (h : x.depth ≤ d ∧ x.cnt ≤ m) : Value.tuple #[.int .i64 (sizN x d m : Int), .bool (sizB x d m)] = .tuple #[.int .i64 (x.cnt : Int), .bool true] := by
  unfold sizN
  rw [sizB_iff.2 h]
  rfl
set_option maxRecDepth 100000 in
set_option maxHeartbeats 4000000 in
theorem size_sat : ∀ d : Nat, d ≤ 1000 → Siz1 d
  | 0, _ => by
    intro x m v w h hm
    obtain ⟨pv, g, rfl, _⟩ := h.shape
    rw [siz_no (fun hh => by have := depth_pos x;omega)]
    refine SatL.of 45 [6, 7] Tryz.func25 (by kernel_rfl) (by kernel_rfl) rfl rfl rfl rfl ?_
    repeat' (first|(apply OK_seq)|(apply thenQ_n)|(apply OK_region)|(apply OKx_nilK)|(apply thenQ_r)|(apply OK_condT;exact rfl)|(apply OK_ret)|(apply OKx_move;(conv=>lhs;whnf)<;>exact rfl)|(apply OKx_assign;(conv=>lhs;whnf)<;>exact rfl)|(apply OKx_lss;exact rfl;exact rfl;all_goals (intro _; try (exfalso;omega)))|(apply OKx_pickT;exact rfl;(conv=>lhs;whnf)<;>exact rfl)|(apply OKx_guardF;exact rfl;exact rfl)|(apply OKx_boxA;exact rfl;intro _))
    all_goals (try (exfalso;omega))
    all_goals
      refine bodyQ_r2 (by ((conv=>lhs;whnf)<;>exact rfl)) (by ((conv=>lhs;whnf)<;>exact rfl)) ?_
      exact ⟨_, Ent.nil, rfl, rfl⟩
  | d + 1, hd => by
    intro x m v w h hm
    have ih := size_sat d (by omega)
    obtain ⟨pv, g, rfl, hs, hP, hE⟩ := h.shape
    obtain ⟨hpb, pa, pc, rfl, _⟩ := id hP
    have hc := cnt_eq x
    have hde := depth_eq x
    by_cases h0 : m = 0
    · subst h0
      rw [siz_no (fun hh => by have := cnt_pos x;omega)]
      refine SatL.of 45 [6, 7] Tryz.func25 (by kernel_rfl) (by kernel_rfl) rfl rfl rfl rfl ?_
      repeat' (first|(apply OK_seq)|(apply thenQ_n)|(apply OK_region)|(apply OKx_nilK)|(apply thenQ_r)|(apply OK_condT;exact rfl)|(apply OK_ret)|(apply OKx_move;(conv=>lhs;whnf)<;>exact rfl)|(apply OKx_assign;(conv=>lhs;whnf)<;>exact rfl)|(apply OKx_lss;exact rfl;exact rfl;all_goals (intro _; try (exfalso;omega)))|(apply OKx_pickF;exact rfl;(conv=>lhs;whnf)<;>exact rfl)|(apply OKx_guardT;exact rfl;exact rfl)|(apply OKx_boxA;exact rfl;intro _))
      all_goals (try (exfalso;omega))
      all_goals
        refine bodyQ_r2 (by ((conv=>lhs;whnf)<;>exact rfl)) (by ((conv=>lhs;whnf)<;>exact rfl)) ?_
        exact ⟨_, Ent.nil, rfl, rfl⟩
    have hml : (x.parts.map Cnd.cnt).length = x.parts.length := List.length_map _
    have hsum := fun j => sum_take_le (x.parts.map Cnd.cnt) j
    have hstep : ∀ j, (hj : j < x.parts.length) → ((x.parts.map Cnd.cnt).take (j + 1)).sum = ((x.parts.map Cnd.cnt).take j).sum + x.parts[j].cnt := fun j hj => by
      rw [sum_take _ _ (by rw [hml]; exact hj), List.getElem_map]
    refine SatL.of 45 [6, 7] Tryz.func25 (by kernel_rfl) (by kernel_rfl) rfl rfl rfl rfl ?_
    repeat' (first|(apply OK_seq)|(apply thenQ_n)|(apply OK_region)|(apply OKx_nilK)|(apply OK_block)|(apply OK_condF;exact rfl)|(apply OK_skip)|(apply OKx_move;(conv=>lhs;whnf)<;>exact rfl)|(apply OKx_assign;(conv=>lhs;whnf)<;>exact rfl)|(apply OKx_lss;exact rfl;exact rfl;all_goals (intro _; try (exfalso;omega)))|(apply OKx_pickF;exact rfl;(conv=>lhs;whnf)<;>exact rfl)|(apply OKx_guardT;exact rfl;exact rfl)|(apply OKx_boxA;exact rfl;intro _))
    all_goals (try (exfalso;omega))
    rename_i gx _ _
    refine OK_loop2 8 9 [6, 7, 8, 9, 10, 11, 18, 19, 20, 21, 22, 23, 24, 25, 26, 27, 28, 29, 30, 31, 32, 33, 34, 35, 36, 37, 38, 39, 40, 41, 42, 43] (fun mm v8 v9 L => ∃ j : Nat, j + mm = x.parts.length ∧ v8 = .int .i64 ((1 + ((x.parts.map Cnd.cnt).take j).sum : Nat) : Int) ∧ v9 = .int .i64 (j : Int) ∧ 1 + ((x.parts.map Cnd.cnt).take j).sum ≤ m ∧ (∀ i, (hi : i < x.parts.length) → i < j → x.parts[i].depth ≤ d) ∧ L = [.box 24 gx [.int .i64 x.kind, .int .i64 x.num, .string x.text, .slice pa x.parts.length pc]]) x.parts.length _ (Ent.refl _ _) ⟨0, by omega, rfl, rfl, by simp;omega, fun i hi h => absurd h (by omega), rfl⟩ ?_
    rintro mm v8 v9 L G ⟨j, hmj, rfl, rfl, hle, H, rfl⟩
    by_cases hj : j < x.parts.length
    · have hst := hstep j hj
      have hsj := hsum (j + 1)
      have hcall := fun w1 (hb1 : Below w.heap.size w w1) => ih x.parts[j] (m - (1 + ((x.parts.map Cnd.cnt).take j).sum)) _ w1 ((hE j hj).below hb1) (by omega)
      have em : ((m - (1 + ((x.parts.map Cnd.cnt).take j).sum) : Nat) : Int) = (m : Int) - ((1 + ((x.parts.map Cnd.cnt).take j).sum : Nat) : Int) := by omega
      rw [em] at hcall
      have ed : ((d + 1 : Nat) : Int) - 1 = (d : Int) := by omega
      by_cases hq : x.parts[j].depth ≤ d ∧ x.parts[j].cnt ≤ m - (1 + ((x.parts.map Cnd.cnt).take j).sum)
      · rw [siz_yes hq] at hcall
        repeat' (first|(apply OK_seq)|(apply thenQ_n)|(apply OK_region)|(apply OKx_gi; refine OKx_idxR2 (i := j) rfl hP rfl hj ?_; intro pp hpp)|(apply OKx_gl; refine OKx_ldRA rfl hpp ?_)|(apply OKx_gn; refine OKx_sub rfl rfl (by omega) (by omega) ?_; try rw [ed])|(apply OKx_gc 25;exact rfl; refine OKx_callV (f := 25) rfl rfl rfl (fun w1 hp => hcall w1 hp.below) ?_)|(apply OKx_nilK)|(apply OK_block)|(apply blockQ_n)|(apply OK_condT;exact rfl)|(apply OK_condF;exact rfl)|(apply OK_skip)|(apply OKx_move;(conv=>lhs;whnf)<;>exact rfl)|(apply OKx_assign;(conv=>lhs;whnf)<;>exact rfl)|(apply OKx_ldB;exact rfl; (apply atP;constructor);exact rfl)|(apply OKx_len;exact rfl)|(apply OKx_lss;exact rfl;exact rfl;all_goals (intro _; try (exfalso;omega)))|(apply OKx_fldO;exact rfl;exact rfl)|(apply OKx_inc;exact rfl;exact rfl;omega)|(apply OKx_addN;exact rfl;exact rfl;omega)|(apply OKx_notT;exact rfl)|(apply OKx_extract;exact rfl;(conv=>lhs;whnf)<;>exact rfl))
        all_goals (try (exfalso;omega))
        refine ⟨by (repeat' (first | refine agree_upd rfl ?_ | exact agree_over | exact agree_refl _ _ | refine agree_over2 rfl ?_)), mm - 1, _, by omega, Ent.refl _ _, ?_⟩
        refine ⟨j + 1, by omega, int_eq (by rw [hst];omega), rfl, by rw [hst];omega, fun i hi h9 => ?_, rfl⟩
        by_cases e : i = j
        · subst e; exact hq.1
        · exact H i hi (by omega)
      · rw [siz_no hq] at hcall
        rw [siz_no (fun hh => hq ⟨by have := (depths_le x.parts _).1 (Nat.le_refl _) _ (List.getElem_mem hj);omega, by omega⟩)]
        repeat' (first|(apply OK_seq)|(apply thenQ_n)|(apply OK_region)|(apply OKx_gi; refine OKx_idxR2 (i := j) rfl hP rfl hj ?_; intro pp hpp)|(apply OKx_gl; refine OKx_ldRA rfl hpp ?_)|(apply OKx_gn; refine OKx_sub rfl rfl (by omega) (by omega) ?_; try rw [ed])|(apply OKx_gc 25;exact rfl; refine OKx_callV (f := 25) rfl rfl rfl (fun w1 hp => hcall w1 hp.below) ?_)|(apply OKx_nilK)|(apply OK_block)|(apply thenQ_r)|(apply blockQ_r)|(apply OK_condT;exact rfl)|(apply OK_skip)|(apply OK_ret)|(apply OKx_move;(conv=>lhs;whnf)<;>exact rfl)|(apply OKx_assign;(conv=>lhs;whnf)<;>exact rfl)|(apply OKx_ldB;exact rfl; (apply atP;constructor);exact rfl)|(apply OKx_len;exact rfl)|(apply OKx_lss;exact rfl;exact rfl;all_goals (intro _; try (exfalso;omega)))|(apply OKx_fldO;exact rfl;exact rfl)|(apply OKx_notF;exact rfl)|(apply OKx_extract;exact rfl;(conv=>lhs;whnf)<;>exact rfl))
        all_goals (try (exfalso;omega))
        refine bodyQ_r2 (by ((conv=>lhs;whnf)<;>exact rfl)) (by ((conv=>lhs;whnf)<;>exact rfl)) ?_
        exact ⟨_, Ent.nil, rfl, rfl⟩
    · obtain rfl : j = x.parts.length := by omega
      rw [← hml, List.take_length] at hle
      have hdp : Cnd.depth.depths x.parts ≤ d := (depths_le x.parts d).2 fun y hy => by
        obtain ⟨i, hi, rfl⟩ := List.getElem_of_mem hy
        exact H i hi hi
      rw [siz_yes ⟨by omega, by omega⟩]
      repeat' (first|(apply OK_seq)|(apply thenQ_n)|(apply OK_region)|(apply OKx_nilK)|(apply blockQ_s)|(apply thenQ_e)|(apply OK_condF;exact rfl)|(apply OK_exit)|(apply OK_ret)|(apply OKx_move;(conv=>lhs;whnf)<;>exact rfl)|(apply OKx_assign;(conv=>lhs;whnf)<;>exact rfl)|(apply OKx_ldB;exact rfl; (apply atP;constructor);exact rfl)|(apply OKx_len;exact rfl)|(apply OKx_lss;exact rfl;exact rfl;all_goals (intro _; try (exfalso;omega)))|(apply OKx_fldO;exact rfl;exact rfl))
      all_goals (try (exfalso;omega))
      refine bodyQ_r2 (by ((conv=>lhs;whnf)<;>exact rfl)) (by ((conv=>lhs;whnf)<;>exact rfl)) ?_
      exact ⟨_, Ent.nil, by rw [← hml, List.take_length, hc] <;> rfl, rfl⟩
def Lng1 (x : Cnd) : Prop := ∀ (v : Value) (w : World), Exp w x v → SatV Tryz.prog 26 [v] w (.bool x.lng)
set_option maxRecDepth 100000 in
set_option maxHeartbeats 4000000 in
theorem long_sat : ∀ (k : Nat) (x : Cnd), x.depth ≤ k → Lng1 x
  | 0, x, hk => by have := depth_pos x;omega
  | k + 1, x, hk => by
    intro v w h
    obtain ⟨pv, g, rfl, hs, hP, hE⟩ := h.shape
    obtain ⟨hpb, pa, pc, rfl, _⟩ := id hP
    have ih : ∀ j, (hj : j < x.parts.length) → Lng1 x.parts[j] := fun j hj => long_sat k _ (by have := depth_in (List.getElem_mem hj);omega)
    rw [lng_eq]
    refine SatL.of 21 [2] Tryz.func26 (by kernel_rfl) (by kernel_rfl) rfl rfl rfl rfl ?_
    repeat' (first|(apply OK_seq)|(apply thenQ_n)|(apply OK_region)|(apply OKx_nilK)|(apply OK_block)|(apply OKx_assign;(conv=>lhs;whnf)<;>exact rfl)|(apply OKx_boxA;exact rfl;intro _))
    all_goals (try (exfalso;omega))
    rename_i gx
    refine OK_loop1 3 [2, 3, 4, 5, 6, 7, 8, 9, 10, 11, 12, 13, 14, 15, 16] (fun m v L => ∃ j : Nat, j + m = x.parts.length ∧ v = .int .i64 (j : Int) ∧ (∀ i, i < j → (x.parts.getD i default).lng = false) ∧ L = [.box 24 gx [.int .i64 x.kind, .int .i64 x.num, .string x.text, .slice pa x.parts.length pc]]) x.parts.length _ (Ent.refl _ _) ⟨0, by omega, rfl, fun i hi => absurd hi (by omega), rfl⟩ ?_
    rintro m v' L G ⟨j, hm, rfl, H, rfl⟩
    by_cases hj : j < x.parts.length
    · have hcall := fun w1 (hb1 : Below w.heap.size w w1) => ih j hj _ w1 ((hE j hj).below hb1)
      have hd : x.parts.getD j default = x.parts[j] := getD_lt _ _ _ hj
      repeat' (first|(apply OK_seq)|(apply thenQ_n)|(apply OK_region)|(apply OKx_gi; refine OKx_idxR2 (i := j) rfl hP rfl hj ?_; intro pp hpp)|(apply OKx_gl; refine OKx_ldRA rfl hpp ?_)|(apply OKx_gc 26;exact rfl; refine OKx_callB (f := 26) rfl rfl rfl (fun w1 hp => hcall w1 hp.below) ?_ ?_ <;> intro hq)|(apply OKx_nilK)|(apply OK_block)|(apply blockQ_n)|(apply thenQ_r)|(apply blockQ_r)|(apply OK_condT;exact rfl)|(apply OK_condF;exact rfl)|(apply OK_skip)|(apply OK_ret)|(apply OKx_move;(conv=>lhs;whnf)<;>exact rfl)|(apply OKx_assign;(conv=>lhs;whnf)<;>exact rfl)|(apply OKx_ldB;exact rfl; (apply atP;constructor);exact rfl)|(apply OKx_len;exact rfl)|(apply OKx_lss;exact rfl;exact rfl;all_goals (intro _; try (exfalso;omega)))|(apply OKx_fldO;exact rfl;exact rfl)|(apply OKx_inc;exact rfl;exact rfl;omega))
      all_goals (try (exfalso;omega))
      all_goals first
        | ((refine bodyQ_r1 (by ((conv=>lhs;whnf)<;>exact rfl)) ?_)
           exact ⟨_, Ent.nil, bool_eq (by rw [any_yes (d := default) hj (by rw [hd]; exact hq), Bool.true_or]), rfl⟩)
        | (refine ⟨by (repeat' (first | refine agree_upd rfl ?_ | exact agree_over | exact agree_refl _ _ | refine agree_over2 rfl ?_)), m - 1, _, by omega, Ent.refl _ _, ?_⟩
           refine ⟨j + 1, by omega, rfl, fun i hi => ?_, rfl⟩
           by_cases e : i = j
           · subst e; rw [hd]; exact hq
           · exact H i (by omega))
    · obtain rfl : j = x.parts.length := by omega
      rw [any_no H, Bool.false_or]
      repeat' (first|(apply OK_seq)|(apply thenQ_n)|(apply OK_region)|(apply OKx_nilK)|(apply blockQ_s)|(apply thenQ_e)|(apply OK_condF;exact rfl)|(apply OK_exit)|(apply OK_ret)|(apply OKx_move;(conv=>lhs;whnf)<;>exact rfl)|(apply OKx_assign;(conv=>lhs;whnf)<;>exact rfl)|(apply OKx_ldB;exact rfl; (apply atP;constructor);exact rfl)|(apply OKx_len;exact rfl)|(apply OKx_lenS;exact rfl)|(apply OKx_lss;exact rfl;exact rfl;all_goals (intro _; try (exfalso;omega)))|(apply OKx_gtr;exact rfl;exact rfl;all_goals (intro _; try (exfalso;omega)))|(apply OKx_fldO;exact rfl;exact rfl))
      all_goals (try (exfalso;omega))
      all_goals
        refine bodyQ_r1 (by ((conv=>lhs;whnf)<;>exact rfl)) ?_
        exact ⟨_, Ent.nil, bool_eq (by first | rw [decide_eq_true (by omega)] | rw [decide_eq_false (by omega)]), rfl⟩
theorem grtX_eq (x : Cnd) : grtX x = (!sizB x 20 40 || x.lng) := rfl
set_option maxRecDepth 100000 in
set_option maxHeartbeats 4000000 in
theorem great26_sat (v : Value) (x : Cnd) (w : World) (h : Exp w x v) : SatV Tryz.prog 5 [v] w (.bool (grtX x)) := by
  have hS := fun w1 (hb1 : Below w.heap.size w w1) => size_sat 20 (by omega) x 40 v w1 (h.below hb1) (by omega)
  have hL := fun w1 (hb1 : Below w.heap.size w w1) => long_sat _ x (Nat.le_refl _) v w1 (h.below hb1)
  obtain ⟨pv, g, rfl, hs, hP, hE⟩ := h.shape
  rw [grtX_eq]
  cases hb : sizB x 20 40 <;> rw [hb] at hS
  · refine SatL.of 14 [2] Tryz.func5 (by kernel_rfl) (by kernel_rfl) rfl rfl rfl rfl ?_
    repeat' (first|(apply OK_seq)|(apply thenQ_n)|(apply OK_region)|(apply OKx_gc 25;exact rfl; refine OKx_callV (f := 25) rfl rfl rfl (fun w1 hp => hS w1 hp.below) ?_)|(apply OKx_nilK)|(apply thenQ_r)|(apply OK_condT;exact rfl)|(apply OK_ret)|(apply OKx_move;(conv=>lhs;whnf)<;>exact rfl)|(apply OKx_assign;(conv=>lhs;whnf)<;>exact rfl)|(apply OKx_notF;exact rfl)|(apply OKx_extract;exact rfl;(conv=>lhs;whnf)<;>exact rfl)|(apply OKx_boxA;exact rfl;intro _)|(apply OKx_ldBA;exact rfl; (apply atP;constructor);exact rfl))
    all_goals
      refine bodyQ_r1 (by ((conv=>lhs;whnf)<;>exact rfl)) ?_
      exact ⟨_, Ent.nil, rfl, rfl⟩
  · refine SatL.of 14 [2] Tryz.func5 (by kernel_rfl) (by kernel_rfl) rfl rfl rfl rfl ?_
    repeat' (first|(apply OK_seq)|(apply thenQ_n)|(apply OK_region)|(apply OKx_gc 25;exact rfl; refine OKx_callV (f := 25) rfl rfl rfl (fun w1 hp => hS w1 hp.below) ?_)|(apply OKx_gc 26;exact rfl; refine OKx_callV (f := 26) rfl rfl rfl (fun w1 hp => hL w1 hp.below) ?_)|(apply OKx_nilK)|(apply OK_condF;exact rfl)|(apply OK_skip)|(apply OK_ret)|(apply OKx_move;(conv=>lhs;whnf)<;>exact rfl)|(apply OKx_assign;(conv=>lhs;whnf)<;>exact rfl)|(apply OKx_notT;exact rfl)|(apply OKx_extract;exact rfl;(conv=>lhs;whnf)<;>exact rfl)|(apply OKx_boxA;exact rfl;intro _)|(apply OKx_ldBA;exact rfl; (apply atP;constructor);exact rfl))
    all_goals
      refine bodyQ_r1 (by ((conv=>lhs;whnf)<;>exact rfl)) ?_
      exact ⟨_, Ent.nil, rfl, rfl⟩
def grL1 (r : Rul) : Bool := decide (20 < r.name.size) || grtX r.cnd
theorem grtL_eq (rs : List Rul) : grtL rs = (rs.any grL1 || (decide (5 < rs.length) && decide (rs.length ≤ 64) || decide (66 < rs.length))) := rfl
set_option maxRecDepth 100000 in
set_option maxHeartbeats 4000000 in
theorem greatL_sat (v : Value) (rs : List Rul) (w : World) (h : Ruls w v rs) : SatV Tryz.prog 13 [v] w (.bool (grtL rs)) := by
  obtain ⟨g, hS, hE, _⟩ := h
  obtain ⟨hb, la, lc, rfl, _⟩ := id hS
  rw [grtL_eq]
  refine SatL.of 38 [2] Tryz.func13 (by kernel_rfl) (by kernel_rfl) rfl rfl rfl rfl ?_
  repeat' (first|(apply OK_seq)|(apply thenQ_n)|(apply OK_region)|(apply OKx_nilK)|(apply OK_block)|(apply OKx_assign;(conv=>lhs;whnf)<;>exact rfl))
  all_goals (try (exfalso;omega))
  refine OK_loop1 3 [2, 3, 4, 5, 6, 7, 8, 9, 10, 11, 12, 13, 14, 15, 16, 17, 18, 19, 20, 21, 22, 23, 24] (fun m v L => ∃ j : Nat, j + m = rs.length ∧ v = .int .i64 (j : Int) ∧ (∀ i, i < j → grL1 (rs.getD i default) = false) ∧ L = []) rs.length _ (Ent.refl _ _) ⟨0, by omega, rfl, fun i hi => absurd hi (by omega), rfl⟩ ?_
  rintro m v' L G ⟨j, hm, rfl, H, rfl⟩
  by_cases hj : j < rs.length
  · obtain ⟨a1, a2, a3, a4, hag, hX, hnz⟩ := hE j hj
    have hag2 := Value.agg.inj hag
    simp only [Array.mk.injEq, List.cons.injEq, and_true] at hag2
    obtain ⟨e0, e1, e2, e3, e4⟩ := hag2
    have hG := fun w1 (hb1 : Below w.heap.size w w1) => great26_sat _ rs[j].cnd w1 (hX.below hb1)
    rw [← e1, ← e2, ← e3, ← e4] at hG
    have hd : rs.getD j default = rs[j] := getD_lt _ _ _ hj
    repeat' (first|(apply OK_seq)|(apply thenQ_n)|(apply OK_region)|(apply OKx_gi; refine OKx_idxR2 (i := j) rfl hS rfl hj ?_; intro pp hpp)|(refine OKx_fldR (off := 0) rfl hpp (by decide) ?_; rw [e0]; intro pq hpq)|(refine OKx_fldRA (off := 1) (len := 4) rfl hpp (by decide) ?_; intro pq hpq)|(apply OKx_gl; refine OKx_ldRA rfl hpq ?_)|(apply OKx_gc 5;exact rfl; refine OKx_callB (f := 5) rfl rfl rfl (fun w1 hp => hG w1 hp.below) ?_ ?_ <;> intro hq)|(apply OKx_nilK)|(apply OK_block)|(apply blockQ_n)|(apply thenQ_r)|(apply blockQ_r)|(apply OK_condT;exact rfl)|(apply OK_condF;exact rfl)|(apply OK_skip)|(apply OK_ret)|(apply OKx_move;(conv=>lhs;whnf)<;>exact rfl)|(apply OKx_assign;(conv=>lhs;whnf)<;>exact rfl)|(apply OKx_ldR;(conv=>lhs;whnf)<;>exact rfl;(with_reducible assumption))|(apply OKx_len;exact rfl)|(apply OKx_lenS;exact rfl)|(apply OKx_lss;exact rfl;exact rfl;all_goals (intro _; try (exfalso;omega)))|(apply OKx_gtr;exact rfl;exact rfl;all_goals (intro _; try (exfalso;omega)))|(apply OKx_inc;exact rfl;exact rfl;omega)|(apply OKx_pickT;exact rfl;(conv=>lhs;whnf)<;>exact rfl)|(apply OKx_pickF;exact rfl;(conv=>lhs;whnf)<;>exact rfl)|(apply OKx_guardT;exact rfl;exact rfl)|(apply OKx_guardF;exact rfl;exact rfl))
    all_goals (try (exfalso;omega))
    all_goals first
      | ((refine bodyQ_r1 (by ((conv=>lhs;whnf)<;>exact rfl)) ?_)
         refine ⟨_, Ent.nil, bool_eq ?_, rfl⟩
         rw [any_yes (d := default) hj, Bool.true_or]
         rw [hd]
         unfold grL1
         first
           | rw [decide_eq_true (by omega), Bool.true_or]
           | rw [hq, Bool.or_true])
      | (refine ⟨by (repeat' (first | refine agree_upd rfl ?_ | exact agree_over | exact agree_refl _ _ | refine agree_over2 rfl ?_)), m - 1, _, by omega, Ent.refl _ _, ?_⟩
         refine ⟨j + 1, by omega, rfl, fun i hi => ?_, rfl⟩
         by_cases e : i = j
         · subst e
           rw [hd]
           unfold grL1
           rw [hq, decide_eq_false (by omega)]
           rfl
         · exact H i (by omega))
  · obtain rfl : j = rs.length := by omega
    rw [any_no H, Bool.false_or]
    repeat' (first|(apply OK_seq)|(apply thenQ_n)|(apply OK_region)|(apply OKx_nilK)|(apply blockQ_s)|(apply thenQ_e)|(apply OK_condF;exact rfl)|(apply OK_exit)|(apply OK_ret)|(apply OKx_move;(conv=>lhs;whnf)<;>exact rfl)|(apply OKx_assign;(conv=>lhs;whnf)<;>exact rfl)|(apply OKx_len;exact rfl)|(apply OKx_lss;exact rfl;exact rfl;all_goals (intro _; try (exfalso;omega)))|(apply OKx_leq;exact rfl;exact rfl;all_goals (intro _; try (exfalso;omega)))|(apply OKx_gtr;exact rfl;exact rfl;all_goals (intro _; try (exfalso;omega)))|(apply OKx_pickT;exact rfl;(conv=>lhs;whnf)<;>exact rfl)|(apply OKx_pickF;exact rfl;(conv=>lhs;whnf)<;>exact rfl)|(apply OKx_guardT;exact rfl;exact rfl)|(apply OKx_guardF;exact rfl;exact rfl))
    all_goals (try (exfalso;omega))
    all_goals
      refine bodyQ_r1 (by ((conv=>lhs;whnf)<;>exact rfl)) ?_
      refine ⟨_, Ent.nil, bool_eq ?_, rfl⟩
      first
        | (rw [decide_eq_true (by omega), decide_eq_true (by omega)]; rfl)
        | (rw [decide_eq_true (show 66 < rs.length by omega), Bool.or_true])
        | (rw [decide_eq_false (show ¬ 5 < rs.length by omega), decide_eq_false (show ¬ 66 < rs.length by omega)]; rfl)
        | (rw [decide_eq_false (show ¬ rs.length ≤ 64 by omega), decide_eq_false (show ¬ 66 < rs.length by omega), Bool.and_false]; rfl)
        | (rw [decide_eq_false (show ¬ rs.length ≤ 64 by omega), Bool.and_false, Bool.false_or]; exact decide_eq_decide.2 (by omega))
        | (rw [decide_eq_false (show ¬ 5 < rs.length by omega), Bool.false_and, Bool.false_or]; exact decide_eq_decide.2 (by omega))
end Go.Proofs.YthnlnffmmioapaaGreatDoor
namespace Go.Proofs.YthnlnffmmioapaaGreatDoor
open Go.RowKit
def UnzC (w : World) (v : Value) (us : List (List Rdn)) : Prop := ∃ g, Sl2 w v 3 us.length g ∧ (∀ j, (h : j < us.length) → ∃ (a b : Int) (xa : Option Addr) (xc : Nat), (.agg #[g j 0, g j 1, g j 2] : Value) = .agg #[.int .i64 a, .int .i64 b, .slice xa us[j].length xc] ∧ Rdns w (.slice xa us[j].length xc) us[j] ∧ us[j].length ≤ xc) ∧ ∀ a k c, v = .slice a k c → k ≤ c
theorem UnzC.unz {w : World} {v : Value} {us : List (List Rdn)} (h : UnzC w v us) : Unzs w v us := by
  obtain ⟨g, h1, h2, _⟩ := h
  exact ⟨g, h1, fun j hj => by
    obtain ⟨a, b, xa, xc, e, hr, _⟩ := h2 j hj
    exact ⟨a, b, _, e, hr⟩⟩
theorem Unzs.below {w w' : World} {v : Value} {us : List (List Rdn)} (h : Unzs w v us) (hb : Below w.heap.size w w') : Unzs w' v us := by
  obtain ⟨g, h1, h2⟩ := h
  exact ⟨g, h1.below hb, fun j hj => (h2 j hj).below hb⟩
set_option maxRecDepth 100000 in
set_option maxHeartbeats 4000000 in
theorem gu1_sat (v : Value) (u : List Rdn) (w : World) (h : UnzV w u v) : SatV Tryz.prog 41 [v] w (.bool (grtR u)) := by
  obtain ⟨a, b, c, rfl, hr⟩ := h
  have hG := fun w1 (hb : Below w.heap.size w w1) => great27_sat c u w1 (hr.below hb)
  refine SatL.of 6 [2] Tryz.func41 (by kernel_rfl) (by kernel_rfl) rfl rfl rfl rfl ?_
  repeat' (first|(apply OK_seq)|(apply thenQ_n)|(apply OK_region)|(apply OKx_gc 7;exact rfl; refine OKx_callV (f := 7) rfl rfl rfl (fun w1 hp => hG w1 hp.below) ?_)|(apply OKx_nilK)|(apply OK_ret)|(apply OKx_assign;(conv=>lhs;whnf)<;>exact rfl)|(apply OKx_ldB;exact rfl; (apply atP;constructor);exact rfl)|(apply OKx_fldO;exact rfl;exact rfl)|(apply OKx_boxA;exact rfl;intro _))
  refine bodyQ_r1 (by ((conv=>lhs;whnf)<;>exact rfl)) ?_
  exact ⟨_, Ent.nil, rfl, rfl⟩
def grtU (us : List (List Rdn)) : Bool := decide ((3 < us.length ∧ us.length ≤ 4096) ∨ 4098 < us.length) || us.any grtR
set_option maxRecDepth 100000 in
set_option maxHeartbeats 4000000 in
theorem greatUnits_sat (v : Value) (us : List (List Rdn)) (w : World) (h : Unzs w v us) : SatV Tryz.prog 15 [v] w (.bool (grtU us)) := by
  obtain ⟨g, hS, hE⟩ := h
  obtain ⟨hb, ua, uc, rfl, _⟩ := id hS
  have hG : ∀ w1, Below w.heap.size w w1 → SatV Tryz.prog 40 [.slice ua us.length uc, .func (.func 41) #[] #[]] w1 (.bool (us.any grtR)) := fun w1 hb => by
    have := containsF_uni_sat _ us.length g (fun j => grtR (us.getD j [])) 41 #[] w1 (hS.below hb) (fun j hj w2 hb2 => by
      rw [show us.getD j [] = us[j] from getD_lt _ _ _ hj]
      exact gu1_sat _ _ w2 (((hE j hj).below hb).below hb2))
    rwa [anyN_some (f := grtR) (fun j hj => by rw [getD_lt _ _ _ hj])] at this
  unfold grtU
  by_cases hl : (3 < us.length ∧ us.length ≤ 4096) ∨ 4098 < us.length
  · rw [decide_eq_true hl, Bool.true_or]
    refine SatL.of 20 [2] Tryz.func15 (by kernel_rfl) (by kernel_rfl) rfl rfl rfl rfl ?_
    repeat' (first|(apply OK_seq)|(apply thenQ_n)|(apply OK_region)|(apply OKx_nilK)|(apply OK_ret)|(apply OKx_move;(conv=>lhs;whnf)<;>exact rfl)|(apply OKx_assign;(conv=>lhs;whnf)<;>exact rfl)|(apply OKx_len;exact rfl)|(apply OKx_leq;exact rfl;exact rfl;all_goals (intro _; try (exfalso;omega)))|(apply OKx_gtr;exact rfl;exact rfl;all_goals (intro _; try (exfalso;omega)))|(apply OKx_pickT;exact rfl;(conv=>lhs;whnf)<;>exact rfl)|(apply OKx_pickF;exact rfl;(conv=>lhs;whnf)<;>exact rfl)|(apply OKx_guardT;exact rfl;exact rfl)|(apply OKx_guardF;exact rfl;exact rfl))
    all_goals (try (exfalso;omega))
    all_goals
      refine bodyQ_r1 (by ((conv=>lhs;whnf)<;>exact rfl)) ?_
      exact ⟨_, Ent.nil, rfl, rfl⟩
  · rw [decide_eq_false hl, Bool.false_or]
    refine SatL.of 20 [2] Tryz.func15 (by kernel_rfl) (by kernel_rfl) rfl rfl rfl rfl ?_
    repeat' (first|(apply OK_seq)|(apply thenQ_n)|(apply OK_region)|(apply OKx_gc 40;exact rfl; refine OKx_callV (f := 40) rfl rfl rfl (fun w1 hp => hG w1 hp.below) ?_)|(apply OKx_nilK)|(apply OK_ret)|(apply OKx_move;(conv=>lhs;whnf)<;>exact rfl)|(apply OKx_assign;(conv=>lhs;whnf)<;>exact rfl)|(apply OKx_len;exact rfl)|(apply OKx_leq;exact rfl;exact rfl;all_goals (intro _; try (exfalso;omega)))|(apply OKx_gtr;exact rfl;exact rfl;all_goals (intro _; try (exfalso;omega)))|(apply OKx_pickT;exact rfl;(conv=>lhs;whnf)<;>exact rfl)|(apply OKx_pickF;exact rfl;(conv=>lhs;whnf)<;>exact rfl)|(apply OKx_guardT;exact rfl;exact rfl)|(apply OKx_guardF;exact rfl;exact rfl))
    all_goals (try (exfalso;omega))
    all_goals
      refine bodyQ_r1 (by ((conv=>lhs;whnf)<;>exact rfl)) ?_
      exact ⟨_, Ent.nil, rfl, rfl⟩
set_option maxRecDepth 100000 in
set_option maxHeartbeats 4000000 in
theorem greatB_sat (v : Value) (bs : List (List ByteArray)) (w : World) (h : Wtb w v bs) : SatV Tryz.prog 14 [v, .func (.func 6) #[] #[]] w (.bool (bs.any grtW)) := by
  obtain ⟨e, hS, hE⟩ := h
  have := containsF_wtb_sat _ bs.length e (fun j => grtW (bs.getD j [])) 6 #[] w hS (fun j hj w2 hb2 => by
    rw [show bs.getD j [] = bs[j] from getD_lt _ _ _ hj]
    exact greatW_sat _ _ w2 ((hE j hj).below hb2))
  rwa [anyN_some (f := grtW) (fun j hj => by rw [getD_lt _ _ _ hj])] at this
theorem grtU_no {us : List (List Rdn)} (h : grtU us = false) : us.length ≤ 4098 ∧ ∀ u ∈ us, u.length ≤ 4098 := by
  unfold grtU at h
  rw [Bool.or_eq_false_iff, decide_eq_false_iff_not, List.any_eq_false] at h
  obtain ⟨h1, h2⟩ := h
  refine ⟨by omega, fun u hu => ?_⟩
  by_cases hl : (6 < u.length ∧ u.length ≤ 4096) ∨ 4098 < u.length
  · exact absurd (grtR_yes hl) (h2 u hu)
  · omega
theorem grtL_no {rs : List Rul} (h : grtL rs = false) : rs.length ≤ 66 := by
  rw [grtL_eq, Bool.or_eq_false_iff, Bool.or_eq_false_iff, decide_eq_false_iff_not] at h
  omega
end Go.Proofs.YthnlnffmmioapaaGreatDoor
