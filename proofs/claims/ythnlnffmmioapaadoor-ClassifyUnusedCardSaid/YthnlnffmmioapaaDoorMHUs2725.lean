/-
  Part 25 of the proof: Fn27, Lk27, Lu27. No statement of the seat is proved here.
-/
import Derived.Test.YthnlnffmmioapaaDoorMHUs2724
namespace Go.Proofs.YthnlnffmmioapaaDoor
open Go.RowKit
section
variable {B : Nat} {w0 w : World} {L : List Res}
theorem Hp.sl2 (h : Hp B w0 w L) (i : Nat) {e : TypeId} {sz g n cap : Nat} {xs : List Value} (hi : L[i]? = some (.row e sz (.slice (some ⟨g, 0, .none⟩) n cap) n xs)) (hn : n ≤ 140737488355328) (hl : xs.length = n * sz) :
    Sl2 w (.slice (some ⟨g, 0, .none⟩) n cap) sz n (fun j c => xs.getD (j * sz + c) undef) := by
  refine ⟨hn, _, _, rfl, .inr ⟨g, 0, rfl, fun j hj c hc => ?_⟩⟩
  have hk : j * sz + c < n * sz := by
    have : (j + 1) * sz ≤ n * sz := Nat.mul_le_mul_right _ (by omega)
    rw [Nat.succ_mul] at this
    omega
  rw [Nat.zero_add, (h.rowAt i hi).1 _ hk]
  show xs[j * sz + c]? = some (xs.getD (j * sz + c) undef)
  rw [List.getD_eq_getElem?_getD, List.getElem?_eq_getElem (by omega)]
  rfl
end
theorem finB_no {b : List ByteArray} {l : List Rdn} {xs : List Cnd} (h : 8 < b.length ∨ grtW b = true ∨ 6 < l.length ∨ grtR l = true) : finB b l xs = false := by
  unfold finB
  rw [show (decide (8 < b.length) || (grtW b || (decide (6 < l.length) || grtR l))) = true by
    simp only [Bool.or_eq_true, decide_eq_true_eq]; exact h]
  rfl
def fin1 (x : Cnd) : Bool := !grtX x && decide (rgtE x = 0)
theorem finB_all {b : List ByteArray} {l : List Rdn} {xs : List Cnd} (h : ¬(8 < b.length ∨ grtW b = true ∨ 6 < l.length ∨ grtR l = true)) : finB b l xs = xs.all fin1 := by
  unfold finB
  rw [show (decide (8 < b.length) || (grtW b || (decide (6 < l.length) || grtR l))) = false from Bool.eq_false_iff.2 fun hh => h (by
    simpa only [Bool.or_eq_true, decide_eq_true_eq] using hh)]
  rfl
theorem finB_yes {b : List ByteArray} {l : List Rdn} {xs : List Cnd} (h : finB b l xs = true) : b.length ≤ 8 ∧ grtW b = false ∧ l.length ≤ 6 ∧ grtR l = false ∧ ∀ x ∈ xs, rgtE x = 0 := by
  by_cases h0 : 8 < b.length ∨ grtW b = true ∨ 6 < l.length ∨ grtR l = true
  · rw [finB_no h0] at h; cases h
  rw [finB_all h0, List.all_eq_true] at h
  refine ⟨Nat.le_of_not_lt fun q => h0 (.inl q), Bool.eq_false_iff.2 fun q => h0 (.inr (.inl q)), Nat.le_of_not_lt fun q => h0 (.inr (.inr (.inl q))), Bool.eq_false_iff.2 fun q => h0 (.inr (.inr (.inr q))), fun x hx => ?_⟩
  have := h x hx
  unfold fin1 at this
  rw [Bool.and_eq_true, decide_eq_true_eq] at this
  exact this.2
set_option maxRecDepth 100000 in
set_option maxHeartbeats 4000000 in
theorem fine27_sat (bv lv cv : Value) (b : List ByteArray) (l : List Rdn) (xs : List Cnd) (g : Nat → Nat → Value) (w : World) (hB : Strs w bv b) (hL : Rdns w lv l) (hS : Sl2 w cv 4 xs.length g) (hE : ∀ j, (h : j < xs.length) → Exp w xs[j] (.agg #[g j 0, g j 1, g j 2, g j 3])) (hkd : KdL w) :
    SatV Tryd.prog 10 [bv, lv, cv] w (.bool (finB b l xs)) := by
  have hW := fun w1 (h : Below w.heap.size w w1) => greatW_sat bv b w1 (hB.below h)
  have hG := fun w1 (h : Below w.heap.size w w1) => great27_sat lv l w1 (hL.below h)
  obtain ⟨ba, bc, rfl, hbl, _⟩ := hB.at
  obtain ⟨gl, hSl, _⟩ := hL
  obtain ⟨hlb, la, lc, rfl, _⟩ := id hSl
  obtain ⟨hcb, ca, cc, rfl, _⟩ := id hS
  by_cases h0 : 8 < b.length ∨ grtW b = true ∨ 6 < l.length ∨ grtR l = true
  · rw [finB_no h0]
    refine SatL.of 43 [6] Tryd.func10 (by kernel_rfl) (by kernel_rfl) rfl rfl rfl rfl ?_
    repeat' (first|(apply OK_seq)|(apply thenQ_n)|(apply OK_region)|(apply OKx_gc 27;exact rfl; refine OKx_callB (f := 27) rfl rfl rfl (fun w1 hp => hW w1 hp.below) ?_ ?_ <;> intro q1)|(apply OKx_gc 28;exact rfl; refine OKx_callB (f := 28) rfl rfl rfl (fun w1 hp => hG w1 hp.below) ?_ ?_ <;> intro q2)|(apply OKx_nilK)|(apply OK_block)|(apply blockQ_n)|(apply blockQ_s)|(apply thenQ_e)|(apply blockQ_e;exact rfl)|(apply thenQ_r)|(apply blockQ_r)|(apply OK_condT;exact rfl)|(apply OK_condF;exact rfl)|(apply OK_skip)|(apply OK_exit)|(apply OK_ret)|(apply OKx_move;(conv=>lhs;whnf)<;>exact rfl)|(apply OKx_assign;(conv=>lhs;whnf)<;>exact rfl)|(apply OKx_len;exact rfl)|(apply OKx_lenR;(conv=>lhs;whnf)<;>exact rfl;(with_reducible assumption))|(apply OKx_lenR2;(conv=>lhs;whnf)<;>exact rfl;(with_reducible assumption))|(apply OKx_lenO;(conv=>lhs;whnf)<;>exact rfl;(first | exact at0|exact at1|exact at2|exact at3|exact at4|exact at5|exact at6|exact at7))|(apply OKx_lss;exact rfl;exact rfl;all_goals (intro _; try (exfalso;omega)))|(apply OKx_gtr;exact rfl;exact rfl;all_goals (intro _; try (exfalso;omega)))|(apply OKx_neq;exact rfl;exact rfl;all_goals (intro _; try (exfalso;omega)))|(apply OKx_idxR2;(conv=>lhs;whnf)<;>exact rfl;(with_reducible assumption);exact rfl;omega;intro _ _)|(apply OKx_inc;exact rfl;exact rfl;omega)|(apply OKx_addN;exact rfl;exact rfl;omega)|(apply OKx_add;exact rfl;exact rfl;omega;omega)|(apply OKx_pickT;exact rfl;(conv=>lhs;whnf)<;>exact rfl)|(apply OKx_pickF;exact rfl;(conv=>lhs;whnf)<;>exact rfl)|(apply OKx_guardT;exact rfl;exact rfl)|(apply OKx_guardF;exact rfl;exact rfl)|(apply OKx_guardU;exact rfl;exact rfl)|(apply OKx_extract;exact rfl;(conv=>lhs;whnf)<;>exact rfl)|(apply OKx_allocA;intro _)|(apply OKx_ldBA;exact rfl;(first | exact at0|exact at1|exact at2|exact at3|exact at4|exact at5|exact at6|exact at7);exact rfl)|(apply OKx_ldRA;(conv=>lhs;whnf)<;>exact rfl;(with_reducible assumption))|(apply OKx_stBA; kernel_rfl;exact rfl;exact rfl;exact rfl;(first | exact at0|exact at1|exact at2|exact at3|exact at4|exact at5|exact at6|exact at7);exact rfl;exact rfl;exact rfl))
    all_goals first
      | ((refine bodyQ_r1 (by ((conv=>lhs;whnf)<;>exact rfl)) ?_)
         exact ⟨_, Ent.nil, rfl, rfl⟩)
      | (exfalso
         rcases h0 with h | h | h | h
         · omega
         · rw [q1] at h; cases h
         · omega
         · rw [q2] at h; cases h)
  have q1 : grtW b = false := Bool.eq_false_iff.2 fun q => h0 (.inr (.inl q))
  have q2 : grtR l = false := Bool.eq_false_iff.2 fun q => h0 (.inr (.inr (.inr q)))
  have q3 : b.length ≤ 8 := Nat.le_of_not_lt fun q => h0 (.inl q)
  have q4 : l.length ≤ 6 := Nat.le_of_not_lt fun q => h0 (.inr (.inr (.inl q)))
  rw [finB_all h0]
  rw [q1] at hW
  rw [q2] at hG
  refine SatL.of 43 [6] Tryd.func10 (by kernel_rfl) (by kernel_rfl) rfl rfl rfl rfl ?_
  repeat' (first|(apply OK_seq)|(apply thenQ_n)|(apply OK_region)|(apply OKx_gc 27;exact rfl; refine OKx_callV (f := 27) rfl rfl rfl (fun w1 hp => hW w1 hp.below) ?_)|(apply OKx_gc 28;exact rfl; refine OKx_callV (f := 28) rfl rfl rfl (fun w1 hp => hG w1 hp.below) ?_)|(apply OKx_nilK)|(apply OK_block)|(apply blockQ_n)|(apply blockQ_s)|(apply thenQ_e)|(apply blockQ_e;exact rfl)|(apply thenQ_r)|(apply blockQ_r)|(apply OK_condT;exact rfl)|(apply OK_condF;exact rfl)|(apply OK_skip)|(apply OK_exit)|(apply OK_ret)|(apply OKx_move;(conv=>lhs;whnf)<;>exact rfl)|(apply OKx_assign;(conv=>lhs;whnf)<;>exact rfl)|(apply OKx_len;exact rfl)|(apply OKx_lenR;(conv=>lhs;whnf)<;>exact rfl;(with_reducible assumption))|(apply OKx_lenR2;(conv=>lhs;whnf)<;>exact rfl;(with_reducible assumption))|(apply OKx_lenO;(conv=>lhs;whnf)<;>exact rfl;(first | exact at0|exact at1|exact at2|exact at3|exact at4|exact at5|exact at6|exact at7))|(apply OKx_lss;exact rfl;exact rfl;all_goals (intro _; try (exfalso;omega)))|(apply OKx_gtr;exact rfl;exact rfl;all_goals (intro _; try (exfalso;omega)))|(apply OKx_neq;exact rfl;exact rfl;all_goals (intro _; try (exfalso;omega)))|(apply OKx_idxR2;(conv=>lhs;whnf)<;>exact rfl;(with_reducible assumption);exact rfl;omega;intro _ _)|(apply OKx_inc;exact rfl;exact rfl;omega)|(apply OKx_addN;exact rfl;exact rfl;omega)|(apply OKx_add;exact rfl;exact rfl;omega;omega)|(apply OKx_pickT;exact rfl;(conv=>lhs;whnf)<;>exact rfl)|(apply OKx_pickF;exact rfl;(conv=>lhs;whnf)<;>exact rfl)|(apply OKx_guardT;exact rfl;exact rfl)|(apply OKx_guardF;exact rfl;exact rfl)|(apply OKx_guardU;exact rfl;exact rfl)|(apply OKx_extract;exact rfl;(conv=>lhs;whnf)<;>exact rfl)|(apply OKx_allocA;intro _)|(apply OKx_ldBA;exact rfl;(first | exact at0|exact at1|exact at2|exact at3|exact at4|exact at5|exact at6|exact at7);exact rfl)|(apply OKx_ldRA;(conv=>lhs;whnf)<;>exact rfl;(with_reducible assumption))|(apply OKx_stBA; kernel_rfl;exact rfl;exact rfl;exact rfl;(first | exact at0|exact at1|exact at2|exact at3|exact at4|exact at5|exact at6|exact at7);exact rfl;exact rfl;exact rfl))
  all_goals (try (exfalso;omega))
  refine OK_loop1 29 [6, 8, 9, 10, 29, 30, 31, 32, 33, 34, 35, 36, 37, 38, 39, 40, 41, 42] (fun m v L => ∃ j : Nat, j + m = xs.length ∧ v = .int .i64 (j : Int) ∧ (∀ i, i < j → fin1 (xs.getD i default) = true) ∧ L = []) xs.length _ (Ent.refl _ _) ⟨0, by omega, rfl, fun i hi => absurd hi (by omega), rfl⟩ ?_
  rintro m v' L G ⟨j, hm, rfl, H, rfl⟩
  by_cases hj : j < xs.length
  · have hX := hE j hj
    have hGr := fun w1 (h : Below w.heap.size w w1) => great26_sat _ xs[j] w1 (hX.below h)
    have hSz := fun w1 (h : Below w.heap.size w w1) => Size_sat _ xs[j] w1 (hX.below h) (hkd.below h)
    obtain ⟨pv, gp, hag, hs, hPq, _⟩ := hX.shape
    obtain ⟨_, qa, qc, rfl, _⟩ := id hPq
    have heq : ((List.range 4).map (g j)).toArray = #[.int .i64 xs[j].kind, .int .i64 xs[j].num, .string xs[j].text, .slice qa xs[j].parts.length qc] := Value.agg.inj hag
    rw [hag] at hGr hSz
    have hd : xs.getD j default = xs[j] := getD_lt _ _ _ hj
    repeat' (first|(apply OK_seq)|(apply thenQ_n)|(apply OK_region)|(apply OKx_gi; refine OKx_idxR2 (i := j) rfl hS rfl hj ?_; intro pp hpp)|(apply OKx_gl; refine OKx_ldRA rfl hpp ?_; rw [heq])|(apply OKx_gc 29;exact rfl; refine OKx_callB (f := 29) rfl rfl rfl (fun w1 hp => hGr w1 hp.below) ?_ ?_ <;> intro hq)|(apply OKx_gc 30;exact rfl; refine OKx_call (f := 30) rfl rfl (fun w1 hp => hSz w1 hp.below) ?_; rintro _ _ ⟨k, rfl, rfl⟩; rw [List.nil_append])|(apply OKx_nilK)|(apply OK_block)|(apply blockQ_n)|(apply blockQ_s)|(apply thenQ_e)|(apply blockQ_e;exact rfl)|(apply thenQ_r)|(apply blockQ_r)|(apply OK_condT;exact rfl)|(apply OK_condF;exact rfl)|(apply OK_skip)|(apply OK_exit)|(apply OK_ret)|(apply OKx_move;(conv=>lhs;whnf)<;>exact rfl)|(apply OKx_assign;(conv=>lhs;whnf)<;>exact rfl)|(apply OKx_len;exact rfl)|(apply OKx_lenR;(conv=>lhs;whnf)<;>exact rfl;(with_reducible assumption))|(apply OKx_lenR2;(conv=>lhs;whnf)<;>exact rfl;(with_reducible assumption))|(apply OKx_lenO;(conv=>lhs;whnf)<;>exact rfl;(first | exact at0|exact at1|exact at2|exact at3|exact at4|exact at5|exact at6|exact at7))|(apply OKx_lss;exact rfl;exact rfl;all_goals (intro _; try (exfalso;omega)))|(apply OKx_gtr;exact rfl;exact rfl;all_goals (intro _; try (exfalso;omega)))|(apply OKx_neq;exact rfl;exact rfl;all_goals (intro _; try (exfalso;omega)))|(apply OKx_idxR2;(conv=>lhs;whnf)<;>exact rfl;(with_reducible assumption);exact rfl;omega;intro _ _)|(apply OKx_inc;exact rfl;exact rfl;omega)|(apply OKx_addN;exact rfl;exact rfl;omega)|(apply OKx_add;exact rfl;exact rfl;omega;omega)|(apply OKx_pickT;exact rfl;(conv=>lhs;whnf)<;>exact rfl)|(apply OKx_pickF;exact rfl;(conv=>lhs;whnf)<;>exact rfl)|(apply OKx_guardT;exact rfl;exact rfl)|(apply OKx_guardF;exact rfl;exact rfl)|(apply OKx_guardU;exact rfl;exact rfl)|(apply OKx_extract;exact rfl;(conv=>lhs;whnf)<;>exact rfl)|(apply OKx_allocA;intro _)|(apply OKx_ldBA;exact rfl;(first | exact at0|exact at1|exact at2|exact at3|exact at4|exact at5|exact at6|exact at7);exact rfl)|(apply OKx_ldRA;(conv=>lhs;whnf)<;>exact rfl;(with_reducible assumption))|(apply OKx_stBA; kernel_rfl;exact rfl;exact rfl;exact rfl;(first | exact at0|exact at1|exact at2|exact at3|exact at4|exact at5|exact at6|exact at7);exact rfl;exact rfl;exact rfl))
    all_goals (try (exfalso;omega))
    all_goals first
      | ((refine bodyQ_r1 (by ((conv=>lhs;whnf)<;>exact rfl)) ?_)
         refine ⟨_, Ent.nil, bool_eq ?_, rfl⟩
         rw [eq_comm, List.all_eq_false]
         refine ⟨xs[j], List.getElem_mem hj, ?_⟩
         unfold fin1
         rw [hq]
         first
           | (rw [Bool.not_true, Bool.false_and]; decide)
           | (rw [decide_eq_false (by assumption)]; decide))
      | (refine ⟨by (repeat' (first | refine agree_upd rfl ?_ | exact agree_over | exact agree_refl _ _ | refine agree_over2 rfl ?_)), m - 1, _, by omega, Ent.nil, ?_⟩
         refine ⟨j + 1, by omega, rfl, fun i hi => ?_, rfl⟩
         by_cases e : i = j
         · subst e
           rw [hd]
           unfold fin1
           rw [hq, decide_eq_true (by assumption)]
           rfl
         · exact H i (by omega))
  · obtain rfl : j = xs.length := by omega
    repeat' (first|(apply OK_seq)|(apply thenQ_n)|(apply OK_region)|(apply OKx_nilK)|(apply OK_block)|(apply blockQ_n)|(apply blockQ_s)|(apply thenQ_e)|(apply blockQ_e;exact rfl)|(apply thenQ_r)|(apply blockQ_r)|(apply OK_condT;exact rfl)|(apply OK_condF;exact rfl)|(apply OK_skip)|(apply OK_exit)|(apply OK_ret)|(apply OKx_move;(conv=>lhs;whnf)<;>exact rfl)|(apply OKx_assign;(conv=>lhs;whnf)<;>exact rfl)|(apply OKx_len;exact rfl)|(apply OKx_lenR;(conv=>lhs;whnf)<;>exact rfl;(with_reducible assumption))|(apply OKx_lenR2;(conv=>lhs;whnf)<;>exact rfl;(with_reducible assumption))|(apply OKx_lenO;(conv=>lhs;whnf)<;>exact rfl;(first | exact at0|exact at1|exact at2|exact at3|exact at4|exact at5|exact at6|exact at7))|(apply OKx_lss;exact rfl;exact rfl;all_goals (intro _; try (exfalso;omega)))|(apply OKx_gtr;exact rfl;exact rfl;all_goals (intro _; try (exfalso;omega)))|(apply OKx_neq;exact rfl;exact rfl;all_goals (intro _; try (exfalso;omega)))|(apply OKx_idxR2;(conv=>lhs;whnf)<;>exact rfl;(with_reducible assumption);exact rfl;omega;intro _ _)|(apply OKx_inc;exact rfl;exact rfl;omega)|(apply OKx_addN;exact rfl;exact rfl;omega)|(apply OKx_add;exact rfl;exact rfl;omega;omega)|(apply OKx_pickT;exact rfl;(conv=>lhs;whnf)<;>exact rfl)|(apply OKx_pickF;exact rfl;(conv=>lhs;whnf)<;>exact rfl)|(apply OKx_guardT;exact rfl;exact rfl)|(apply OKx_guardF;exact rfl;exact rfl)|(apply OKx_guardU;exact rfl;exact rfl)|(apply OKx_extract;exact rfl;(conv=>lhs;whnf)<;>exact rfl)|(apply OKx_allocA;intro _)|(apply OKx_ldBA;exact rfl;(first | exact at0|exact at1|exact at2|exact at3|exact at4|exact at5|exact at6|exact at7);exact rfl)|(apply OKx_ldRA;(conv=>lhs;whnf)<;>exact rfl;(with_reducible assumption))|(apply OKx_stBA; kernel_rfl;exact rfl;exact rfl;exact rfl;(first | exact at0|exact at1|exact at2|exact at3|exact at4|exact at5|exact at6|exact at7);exact rfl;exact rfl;exact rfl))
    all_goals (try (exfalso;omega))
    refine bodyQ_r1 (by ((conv=>lhs;whnf)<;>exact rfl)) ?_
    refine ⟨_, Ent.nil, bool_eq ?_, rfl⟩
    rw [eq_comm, List.all_eq_true]
    intro x hx
    obtain ⟨i, hi, rfl⟩ := List.getElem_of_mem hx
    have := H i hi
    rwa [getD_lt _ _ _ hi] at this
set_option maxRecDepth 100000 in
set_option maxHeartbeats 4000000 in
theorem rd27_sat (a : Option Addr) (k c : Nat) (w : World) : Sat Tryd.prog 31 [.slice a k c] w (fun u L => ∃ g, u = .agg #[.slice a k c, .slice (some ⟨g, 0, none⟩) 1 1] ∧ L = [.row 3 1 (.slice (some ⟨g, 0, none⟩) 1 1) 1 [.int .i64 0]]) := by
  refine SatL.ofC 6 2 28 2 Tryd.func31 (by kernel_rfl) (by kernel_rfl) rfl rfl rfl ?_
  repeat' (first|(apply OK_seq)|(apply thenQ_n)|(apply OK_region)|(apply OKx_nilK)|(apply OK_block)|(apply blockQ_n)|(apply blockQ_s)|(apply thenQ_e)|(apply blockQ_e;exact rfl)|(apply thenQ_r)|(apply blockQ_r)|(apply OK_condT;exact rfl)|(apply OK_condF;exact rfl)|(apply OK_skip)|(apply OK_exit)|(apply OK_ret)|(apply OKx_move;(conv=>lhs;whnf)<;>exact rfl)|(apply OKx_allocA;intro _)|(apply OKx_slit1;(conv=>lhs;whnf)<;>exact rfl;exact rfl;intro _)|(apply OKx_build2;(conv=>lhs;whnf)<;>exact rfl;(conv=>lhs;whnf)<;>exact rfl;exact rfl;exact rfl)|(apply OKx_stBA; kernel_rfl;exact rfl;exact rfl;exact rfl;(first | exact at0|exact at1|exact at2|exact at3|exact at4|exact at5|exact at6|exact at7);exact rfl;exact rfl;exact rfl))
  (apply bodyC_r;exact rfl;(first | exact at0|exact at1|exact at2|exact at3|exact at4|exact at5|exact at6|exact at7);exact rfl)
  · exact ⟨_, Ent.pick [0] rfl, _, rfl, rfl⟩
  · exact rfl
theorem exp_leaf (w : World) (k n : Int) : Exp w (.mk k n ⟨#[]⟩ []) (.agg #[.int .i64 k, .int .i64 n, .string ⟨#[]⟩, .slice none 0 0]) := by
  unfold Exp
  refine ⟨_, fun _ _ => undef, rfl, by decide, ⟨by decide, none, 0, rfl, .inl rfl⟩, ?_⟩
  unfold Exps
  trivial
theorem exp_build1 (k : Int) : Instr.fill ([(0, 1), (1, 1), (2, 1), (3, 1)].toArray[·]?) #[.int .i64 0, .int .i64 0, .string ⟨#[]⟩, .slice none 0 0] [(0, .int .i64 k)] = some #[.int .i64 k, .int .i64 0, .string ⟨#[]⟩, .slice none 0 0] := rfl
theorem exp_build2 (k n : Int) : Instr.fill ([(0, 1), (1, 1), (2, 1), (3, 1)].toArray[·]?) #[.int .i64 0, .int .i64 0, .string ⟨#[]⟩, .slice none 0 0] [(0, .int .i64 k), (1, .int .i64 n)] = some #[.int .i64 k, .int .i64 n, .string ⟨#[]⟩, .slice none 0 0] := rfl
theorem rul_build (s : ByteArray) (k n : Int) : Instr.fill ([(0, 1), (1, 4)].toArray[·]?) #[.string ⟨#[]⟩, .int .i64 0, .int .i64 0, .string ⟨#[]⟩, .slice none 0 0] [(0, .string s), (1, .agg #[.int .i64 k, .int .i64 n, .string ⟨#[]⟩, .slice none 0 0])] = some #[.string s, .int .i64 k, .int .i64 n, .string ⟨#[]⟩, .slice none 0 0] := rfl
def wDeus : ByteArray := ⟨#[100, 101, 117, 115]⟩
def wEst : ByteArray := ⟨#[101, 115, 116]⟩
def wDeuS : ByteArray := ⟨#[68, 101, 117, 115]⟩
def wCelum : ByteArray := ⟨#[99, 101, 108, 117, 109]⟩
def wCaelum : ByteArray := ⟨#[99, 97, 101, 108, 117, 109]⟩
def wGap : ByteArray := ⟨#[103, 97, 112]⟩
theorem levE_same {q : Nat → Nat → Bool} {i k : Nat} (h : q i k = true) : levE q (i + 1) (k + 1) ≤ levE q i k := by
  rw [levE, if_pos h]
  omega
theorem levE_more (q : Nat → Nat → Bool) (i k : Nat) : levE q (i + 1) (k + 1) ≤ levE q (i + 1) k + 1 := by
  rw [levE]
  omega
theorem lev_celum : lev (jnS [wCelum]) (jnS [wCaelum]) ≤ 1 := by
  show levE (byEq (jnS [wCelum]) (jnS [wCaelum])) 5 6 ≤ 1
  have h0 : levE (byEq (jnS [wCelum]) (jnS [wCaelum])) 0 0 = 0 := by rw [levE]
  have h1 : levE (byEq (jnS [wCelum]) (jnS [wCaelum])) 1 1 ≤ levE (byEq (jnS [wCelum]) (jnS [wCaelum])) 0 0 := levE_same (by decide +kernel)
  have h2 : levE (byEq (jnS [wCelum]) (jnS [wCaelum])) 1 2 ≤ levE (byEq (jnS [wCelum]) (jnS [wCaelum])) 1 1 + 1 := levE_more _ 0 1
  have h3 : levE (byEq (jnS [wCelum]) (jnS [wCaelum])) 2 3 ≤ levE (byEq (jnS [wCelum]) (jnS [wCaelum])) 1 2 := levE_same (by decide +kernel)
  have h4 : levE (byEq (jnS [wCelum]) (jnS [wCaelum])) 3 4 ≤ levE (byEq (jnS [wCelum]) (jnS [wCaelum])) 2 3 := levE_same (by decide +kernel)
  have h5 : levE (byEq (jnS [wCelum]) (jnS [wCaelum])) 4 5 ≤ levE (byEq (jnS [wCelum]) (jnS [wCaelum])) 3 4 := levE_same (by decide +kernel)
  have h6 : levE (byEq (jnS [wCelum]) (jnS [wCaelum])) 5 6 ≤ levE (byEq (jnS [wCelum]) (jnS [wCaelum])) 4 5 := levE_same (by decide +kernel)
  omega
theorem near_celum : nearB [wCelum] [wCaelum] 1 = true := by
  unfold nearB
  have := lev_celum
  rw [decide_eq_true (show max (jnS [wCelum]).length (jnS [wCaelum]).length ≤ 256 by decide +kernel), decide_eq_true (show ((lev (jnS [wCelum]) (jnS [wCaelum]) : Nat) : Int) ≤ 1 by omega)]
  rfl
theorem aw1 : hldB (.mk 4 0 ⟨#[]⟩ []) [wDeus, wEst] ⟨[wEst, wDeus], [0]⟩ = true ∧ hldE (.mk 4 0 ⟨#[]⟩ []) [wDeus, wEst] ⟨[wEst, wDeus], [0]⟩ = 0 := by decide +kernel
theorem aw2 : hldB (.mk 4 0 ⟨#[]⟩ []) [wEst, wDeus] ⟨[wDeuS, wEst], [0]⟩ = false ∧ hldE (.mk 4 0 ⟨#[]⟩ []) [wEst, wDeus] ⟨[wDeuS, wEst], [0]⟩ = 0 := by decide +kernel
theorem aw3 : hldB (.mk 5 1 ⟨#[]⟩ []) [wCelum] ⟨[wCaelum], [0]⟩ = true ∧ hldE (.mk 5 1 ⟨#[]⟩ []) [wCelum] ⟨[wCaelum], [0]⟩ = 0 := by
  have e : hldE (.mk 5 1 ⟨#[]⟩ []) [wCelum] ⟨[wCaelum], [0]⟩ = 0 := by decide +kernel
  refine ⟨?_, e⟩
  rw [hldB_ok e, hd_leaf _ _ _ _ _ _ (by decide)]
  exact near_celum
theorem aw4 : claN [⟨wGap, .mk 1 0 ⟨#[]⟩ []⟩] [wEst] ⟨[], []⟩ = wGap ∧ claE [⟨wGap, .mk 1 0 ⟨#[]⟩ []⟩] [wEst] ⟨[], []⟩ = 0 := by decide +kernel
theorem awH (k n : Int) (b ws : List ByteArray) (bv wv sv : Value) (w : World) (a : Bool) (e : hldB (.mk k n ⟨#[]⟩ []) b ⟨ws, [0]⟩ = a ∧ hldE (.mk k n ⟨#[]⟩ []) b ⟨ws, [0]⟩ = 0) (hB : Strs w bv b) (hW : Strs w wv ws) (hS : Ints w sv [0]) (hkd : KdL w) (hkf : KfL w) :
    SatV Tryd.prog 13 [.agg #[.int .i64 k, .int .i64 n, .string ⟨#[]⟩, .slice none 0 0], bv, .agg #[wv, sv]] w (.tuple #[.bool a, .int .i64 0]) := by
  have := Holds_sat _ bv (.agg #[wv, sv]) (.mk k n ⟨#[]⟩ []) b ⟨ws, [0]⟩ w (exp_leaf w k n) hB ⟨_, _, rfl, hW, hS⟩ hkd hkf
  rwa [e.1, e.2] at this
theorem Strs.nil27 (w : World) : Strs w (.slice none 0 0) [] := ⟨⟨by simp, ⟨_, _, rfl, .inl rfl⟩, fun a m c h => by simp only [Value.slice.injEq] at h;omega⟩, by simp⟩
theorem awC (bv : Value) (g : Nat) (w : World) (hs : Sl2 w (.slice (some ⟨g, 0, none⟩) 1 1) 5 1 (fun j c => [Value.string wGap, .int .i64 1, .int .i64 0, .string ⟨#[]⟩, .slice none 0 0].getD (j * 5 + c) undef)) (hB : Strs w bv [wEst]) (hkd : KdL w) (hkf : KfL w) (ht : TbL w) :
    SatV Tryd.prog 17 [.slice (some ⟨g, 0, none⟩) 1 1, bv, .agg #[.slice none 0 0, .slice none 0 0]] w (.tuple #[.string wGap, .int .i64 0]) := by
  have := Class_sat (.slice (some ⟨g, 0, none⟩) 1 1) bv (.agg #[.slice none 0 0, .slice none 0 0]) [⟨wGap, .mk 1 0 ⟨#[]⟩ []⟩] [wEst] ⟨[], []⟩ w ⟨_, hs, fun j hj => by
    obtain rfl : j = 0 := by simp at hj;omega
    exact ⟨_, _, _, _, rfl, exp_leaf w 1 0, (by decide : wGap.size ≤ 140737488355328)⟩, fun a k c e => by cases e; exact Nat.le_refl _⟩ hB ⟨_, _, rfl, Strs.nil27 w, Ints.nil w⟩ hkd hkf ht
  rwa [aw4.1, aw4.2] at this
set_option maxRecDepth 100000 in
set_option maxHeartbeats 4000000 in
theorem awake27_sat (w : World) (hkd : KdL w) (hkf : KfL w) (ht : TbL w) : SatV Tryd.prog 11 [] w (.bool true) := by
  refine SatL.of 62 [0] Tryd.func11 (by kernel_rfl) (by kernel_rfl) rfl rfl rfl rfl ?_
  repeat' (first|(apply OK_seq)|(apply thenQ_n)|(apply OK_region)|(apply OKx_gc 31;exact rfl; refine OKx_call (f := 31) rfl rfl (fun w1 hp => rd27_sat _ _ _ w1) ?_; rintro _ _ ⟨gI, rfl, rfl⟩; rw [List.cons_append, List.nil_append])|(refine OKx_buildG [(0, .int .i64 4)] #[.int .i64 4, .int .i64 0, .string ⟨#[]⟩, .slice none 0 0] rfl (exp_build1 4) ?_)|(refine OKx_buildG [(0, .int .i64 1)] #[.int .i64 1, .int .i64 0, .string ⟨#[]⟩, .slice none 0 0] rfl (exp_build1 1) ?_)|(refine OKx_buildG [(0, .int .i64 5), (1, .int .i64 1)] #[.int .i64 5, .int .i64 1, .string ⟨#[]⟩, .slice none 0 0] rfl (exp_build2 5 1) ?_)|(refine OKx_buildG [(0, .string wGap), (1, .agg #[.int .i64 1, .int .i64 0, .string ⟨#[]⟩, .slice none 0 0])] #[.string wGap, .int .i64 1, .int .i64 0, .string ⟨#[]⟩, .slice none 0 0] rfl (rul_build wGap 1 0) ?_)|(apply OKx_gt; refine OKx_slit1A (cs := [.string wGap, .int .i64 1, .int .i64 0, .string ⟨#[]⟩, .slice none 0 0]) rfl rfl rfl ?_; intro gR)|(apply OKx_gc 13;exact rfl; refine OKx_callV (f := 13) (v := .tuple #[.bool true, .int .i64 0]) rfl rfl rfl (fun w1 hp => awH 4 0 [wDeus, wEst] [wEst, wDeus] _ _ _ w1 true aw1 (hp.strs 2 rfl (by decide) (by decide)) (hp.strs 1 rfl (by decide) (by decide)) (hp.ints 0 rfl (by decide)) (hkd.below hp.below) (hkf.below hp.below)) ?_)|(apply OKx_gc 13;exact rfl; refine OKx_callV (f := 13) (v := .tuple #[.bool false, .int .i64 0]) rfl rfl rfl (fun w1 hp => awH 4 0 [wEst, wDeus] [wDeuS, wEst] _ _ _ w1 false aw2 (hp.strs 2 rfl (by decide) (by decide)) (hp.strs 1 rfl (by decide) (by decide)) (hp.ints 0 rfl (by decide)) (hkd.below hp.below) (hkf.below hp.below)) ?_)|(apply OKx_gc 13;exact rfl; refine OKx_callV (f := 13) (v := .tuple #[.bool true, .int .i64 0]) rfl rfl rfl (fun w1 hp => awH 5 1 [wCelum] [wCaelum] _ _ _ w1 true aw3 (hp.strs 2 rfl (by decide) (by decide)) (hp.strs 1 rfl (by decide) (by decide)) (hp.ints 0 rfl (by decide)) (hkd.below hp.below) (hkf.below hp.below)) ?_)|(apply OKx_gc 17;exact rfl; refine OKx_callV (f := 17) (v := .tuple #[.string wGap, .int .i64 0]) rfl rfl rfl (fun w1 hp => awC _ _ w1 (hp.sl2 1 rfl (by decide) rfl) (hp.strs 0 rfl (by decide) (by decide)) (hkd.below hp.below) (hkf.below hp.below) (ht.below hp.below)) ?_)|(apply OKx_gb; refine OKx_max4 (r := 0) rfl rfl rfl rfl (by decide) ?_)|(apply OKx_nilK)|(apply OK_block)|(apply blockQ_n)|(apply blockQ_s)|(apply thenQ_e)|(apply blockQ_e;exact rfl)|(apply thenQ_r)|(apply blockQ_r)|(apply OK_condT;exact rfl)|(apply OK_condF;exact rfl)|(apply OK_skip)|(apply OK_exit)|(apply OK_ret)|(apply OKx_move;(conv=>lhs;whnf)<;>exact rfl)|(apply OKx_assign;(conv=>lhs;whnf)<;>exact rfl)|(apply OKx_eql;exact rfl;exact rfl;all_goals (intro _; try (exfalso;omega)))|(apply OKx_seql;exact rfl;exact rfl; all_goals intro _)|(apply OKx_max;exact rfl;exact rfl)|(apply OKx_pickT;exact rfl;(conv=>lhs;whnf)<;>exact rfl)|(apply OKx_pickF;exact rfl;(conv=>lhs;whnf)<;>exact rfl)|(apply OKx_guardT;exact rfl;exact rfl)|(apply OKx_guardF;exact rfl;exact rfl)|(apply OKx_guardU;exact rfl;exact rfl)|(apply OKx_notT;exact rfl)|(apply OKx_notF;exact rfl)|(apply OKx_extract;exact rfl;(conv=>lhs;whnf)<;>exact rfl)|(apply OKx_slit1;(conv=>lhs;whnf)<;>exact rfl;exact rfl;intro _)|(apply OKx_slit2;(conv=>lhs;whnf)<;>exact rfl;(conv=>lhs;whnf)<;>exact rfl;exact rfl;exact rfl;intro _)|(apply OKx_build2;(conv=>lhs;whnf)<;>exact rfl;(conv=>lhs;whnf)<;>exact rfl;exact rfl;exact rfl)|(apply OKx_build0))
  all_goals first
    | ((refine bodyQ_r1 (by ((conv=>lhs;whnf)<;>exact rfl)) ?_)
       exact ⟨_, Ent.nil, rfl, rfl⟩)
    | (exfalso; apply_assumption; rfl)
end Go.Proofs.YthnlnffmmioapaaDoor
namespace Go.Proofs.YthnlnffmmioapaaDoor
open Go.RowKit
theorem sl2_none (w : World) (sz : Nat) (g : Nat → Nat → Value) : Sl2 w (.slice none 0 0) sz 0 g := ⟨by omega, none, 0, rfl, .inl rfl⟩
end Go.Proofs.YthnlnffmmioapaaDoor
namespace Go.Proofs.YthnlnffmmioapaaDoor
open Go.RowKit
section
variable {P : Program} {n : Nat} {w0 : World} {Q : Exit → Fm → List Res → Prop} {F : Fm} {L : List Res}
theorem OK_world27 {c : Code} (h : ∀ w, Hp w0.heap.size w0 w L → OK P n w0 Q c F L) : OK P n w0 Q c F L := OK.mk' fun w a hf hp => (h w hp).use w a hf hp
end
theorem uni_build (a : Option Addr) (n c : Nat) : Instr.fill ([(0, 1), (1, 1), (2, 1)].toArray[·]?) #[.int .i64 0, .int .i64 0, .slice none 0 0] [(2, .slice a n c)] = some #[.int .i64 0, .int .i64 0, .slice a n c] := rfl
end Go.Proofs.YthnlnffmmioapaaDoor
