/-
  Part 14 of the proof: Ow27, Wd27. No statement of the seat is proved here.
-/
import Derived.Test.YthnlnffmmioapaaDoorMHUs2713
namespace Go.Proofs.YthnlnffmmioapaaDoor
open Go.RowKit
set_option maxRecDepth 100000 in
set_option maxHeartbeats 4000000 in
theorem gCheckB_sat (s : ByteArray) (w : World) (hs : s.size ≤ 140737488355328) : SatV Tryd.prog 79 [.string s] w (.int .i64 (patE (byts s))) := by
  have := gCheck_sat (byts s) w (by rw [byts_len]; exact hs)
  rwa [show bOf (byts s) = s from bOf_data s] at this
set_option maxRecDepth 100000 in
set_option maxHeartbeats 4000000 in
theorem own1_sat (x : Cnd) (v : Value) (w : World) (h : Exp w x v) (hk : KdL w) (ih : ∀ w1 v, Exp w1 x v → KdL w1 → SatV Tryd.prog 66 [v] w1 (.bool x.own)) : SatV Tryd.prog 80 [v] w (.bool (!x.own)) := by
  obtain ⟨pv, g, rfl, _⟩ := h.shape
  have ih2 := fun w1 (hb : Below w.heap.size w w1) => ih w1 _ (h.below hb) (hk.below hb)
  refine SatL.of 6 [2] Tryd.func80 (by kernel_rfl) (by kernel_rfl) rfl rfl rfl rfl ?_
  repeat' (first|(apply OK_seq)|(apply thenQ_n)|(apply OK_region)|(apply OKx_gc 66;exact rfl; refine OKx_callB (f := 66) rfl rfl rfl (fun w1 hp => ih2 w1 hp.below) ?_ ?_ <;> intro hq)|(apply OKx_nilK)|(apply OK_block)|(apply blockQ_n)|(apply blockQ_s)|(apply thenQ_e)|(apply blockQ_e;exact rfl)|(apply thenQ_r)|(apply blockQ_r)|(apply OK_condT;exact rfl)|(apply OK_condF;exact rfl)|(apply OK_skip)|(apply OK_exit)|(apply OK_ret)|(apply OKx_assign;(conv=>lhs;whnf)<;>exact rfl)|(apply OKx_notT;exact rfl)|(apply OKx_notF;exact rfl)|(apply OKx_boxA;exact rfl;intro _)|(apply OKx_ldBA;exact rfl;(first | exact at0|exact at1|exact at2|exact at3|exact at4|exact at5|exact at6|exact at7);exact rfl)|(apply OKx_ldRA;(conv=>lhs;whnf)<;>exact rfl;(with_reducible assumption)))
  all_goals
    refine bodyQ_r1 (by ((conv=>lhs;whnf)<;>exact rfl)) ?_
    exact ⟨_, Ent.nil, by rw [hq]; rfl, rfl⟩
theorem anyN_not {p : Nat → Bool} {xs : List Cnd} {f : Cnd → Bool} (h : ∀ j, (hj : j < xs.length) → p j = !f xs[j]) : anyN p xs.length = !(xs.all f) := by
  unfold anyN
  rw [Bool.eq_iff_iff, List.any_eq_true, Bool.not_eq_true', List.all_eq_false]
  constructor
  · rintro ⟨j, hj, e⟩
    rw [List.mem_range] at hj
    rw [h j hj] at e
    exact ⟨_, List.getElem_mem hj, by simpa using e⟩
  · rintro ⟨x, hx, e⟩
    obtain ⟨j, hj, rfl⟩ := List.getElem_of_mem hx
    exact ⟨j, List.mem_range.2 hj, by rw [h j hj]; simpa using e⟩
theorem size_nil (s : ByteArray) : s.size = 0 ↔ s = ⟨#[]⟩ := by
  constructor
  · intro h
    obtain ⟨⟨l⟩⟩ := s
    cases l with
    | nil => rfl
    | cons a l => exact absurd h (by simp [ByteArray.size])
  · rintro rfl
    rfl
theorem node_iff {k n : Int} {s : ByteArray} {m : Nat} : nodeB k n s m = true ↔ 1 ≤ k ∧ k ≤ 13 ∧ 0 ≤ n ∧ n ≤ 1000 ∧ (numK k = false → n = 0) ∧ (txtK k = false → s = ⟨#[]⟩) ∧ (txtK k = true → patE (byts s) = 0) ∧ lstK k ≤ m ∧ (0 ≤ mstK k → (m : Int) ≤ mstK k) := by
  unfold nodeB
  rw [decide_eq_true_eq, ← size_nil]
def Own1 (x : Cnd) : Prop := ∀ w v, Exp w x v → KdL w → SatV Tryd.prog 66 [v] w (.bool x.own)
set_option maxRecDepth 100000 in
set_option maxHeartbeats 4000000 in
theorem own_sat : ∀ (k : Nat) (x : Cnd), x.depth ≤ k → Own1 x
  | 0, x, hk => by have := depth_pos x;omega
  | k + 1, x, hk => by
    intro w v h hkd
    obtain ⟨pv, g, rfl, hs, hP, hE⟩ := h.shape
    have ih : ∀ j, (hj : j < x.parts.length) → Own1 x.parts[j] := fun j hj => own_sat k _ (by have := depth_in (List.getElem_mem hj);omega)
    have hC : ∀ w1, Below w.heap.size w w1 → SatV Tryd.prog 60 [pv, .func (.func 80) #[] #[]] w1 (.bool (!(x.parts.all Cnd.own))) := fun w1 hb => by
      have := containsF_exp_sat pv x.parts.length g (fun j => !((x.parts.getD j default).own)) 80 #[] w1 (hP.below hb) (fun j hj w2 hb2 => by
        rw [show x.parts.getD j default = x.parts[j] by simp [hj]]
        exact own1_sat x.parts[j] _ w2 ((hE j hj).below (hb.trans (hb2.mono hb.size))) (hkd.below (hb.trans (hb2.mono hb.size))) (fun w3 v3 h3 h4 => ih j hj w3 v3 h3 h4))
      rwa [anyN_not (f := Cnd.own) (fun j hj => by simp [hj])] at this
    have hG : ∀ w1, SatV Tryd.prog 79 [.string x.text] w1 (.int .i64 (patE (byts x.text))) := fun w1 => gCheckB_sat _ w1 hs
    by_cases hkk : 1 ≤ x.kind ∧ x.kind ≤ 13
    rotate_left
    · have hf : x.own = false := by
        rw [own_eq, nodeB, decide_eq_false (fun h => hkk ⟨h.1, h.2.1⟩), Bool.false_and]
      rw [hf]
      refine SatL.of 78 [2] Tryd.func66 (by kernel_rfl) (by kernel_rfl) rfl rfl rfl rfl ?_
      repeat' (first|(apply OK_seq)|(apply thenQ_n)|(apply OK_region)|(apply OKx_nilK)|(apply OK_block)|(apply blockQ_n)|(apply blockQ_s)|(apply thenQ_e)|(apply blockQ_e;exact rfl)|(apply thenQ_r)|(apply blockQ_r)|(apply OK_condT;exact rfl)|(apply OK_condF;exact rfl)|(apply OK_skip)|(apply OK_exit)|(apply OK_ret)|(apply OKx_move;(conv=>lhs;whnf)<;>exact rfl)|(apply OKx_assign;(conv=>lhs;whnf)<;>exact rfl)|(apply OKx_ldB;exact rfl;(first | exact at0|exact at1|exact at2|exact at3|exact at4|exact at5|exact at6|exact at7);exact rfl)|(apply OKx_ldR;(conv=>lhs;whnf)<;>exact rfl;(with_reducible assumption))|(apply OKx_ldI;exact rfl;(first | exact at0|exact at1|exact at2|exact at3|exact at4|exact at5|exact at6|exact at7);omega)|(apply OKx_len;exact rfl)|(apply OKx_lenR;(conv=>lhs;whnf)<;>exact rfl;(with_reducible assumption))|(apply OKx_lenR2;(conv=>lhs;whnf)<;>exact rfl;(with_reducible assumption))|(apply OKx_lenO;(conv=>lhs;whnf)<;>exact rfl;(first | exact at0|exact at1|exact at2|exact at3|exact at4|exact at5|exact at6|exact at7))|(apply OKx_lss;exact rfl;exact rfl;all_goals (intro _; try (exfalso;omega)))|(apply OKx_gtr;exact rfl;exact rfl;all_goals (intro _; try (exfalso;omega)))|(apply OKx_geq;exact rfl;exact rfl;all_goals (intro _; try (exfalso;omega)))|(apply OKx_neq;exact rfl;exact rfl;all_goals (intro _; try (exfalso;omega)))|(apply OKx_sneq;exact rfl;exact rfl; all_goals intro _)|(apply OKx_idxR2;(conv=>lhs;whnf)<;>exact rfl;(with_reducible assumption);exact rfl;omega;intro _ _)|(apply OKx_fldO;exact rfl;exact rfl)|(apply OKx_fldR;(conv=>lhs;whnf)<;>exact rfl;(with_reducible assumption); decide;intro _ _)|(apply OKx_pickT;exact rfl;(conv=>lhs;whnf)<;>exact rfl)|(apply OKx_pickF;exact rfl;(conv=>lhs;whnf)<;>exact rfl)|(apply OKx_guardT;exact rfl;exact rfl)|(apply OKx_guardF;exact rfl;exact rfl)|(apply OKx_guardU;exact rfl;exact rfl)|(apply OKx_notT;exact rfl)|(apply OKx_notF;exact rfl)|(apply OKx_boxA;exact rfl;intro _)|(apply OKx_allocA;intro _)|(apply OKx_ldBA;exact rfl;(first | exact at0|exact at1|exact at2|exact at3|exact at4|exact at5|exact at6|exact at7);exact rfl)|(apply OKx_ldRA;(conv=>lhs;whnf)<;>exact rfl;(with_reducible assumption))|(apply OKx_ldBo;exact rfl;(first | exact at0|exact at1|exact at2|exact at3|exact at4|exact at5|exact at6|exact at7);omega)|(apply OKx_stBA; kernel_rfl;exact rfl;exact rfl;exact rfl;(first | exact at0|exact at1|exact at2|exact at3|exact at4|exact at5|exact at6|exact at7);exact rfl;exact rfl;exact rfl))
      all_goals (try (exfalso;omega))
      all_goals
        refine bodyQ_r1 (by ((conv=>lhs;whnf)<;>exact rfl)) ?_
        exact ⟨_, Ent.nil, rfl, rfl⟩
    obtain ⟨i, hi⟩ := Int.eq_ofNat_of_zero_le (show 0 ≤ x.kind by omega)
    have hi' : x.kind.toNat = i := by omega
    have hpt := hkd.pt i (by omega)
    have hn : x.own = (nodeB x.kind x.num x.text x.parts.length && x.parts.all Cnd.own) := own_eq x
    cases hN : numK x.kind <;> cases hT : txtK x.kind
    all_goals
      have hN' := hN
      have hT' := hT
      rw [hi] at hN' hT'
      refine SatL.of 78 [2] Tryd.func66 (by kernel_rfl) (by kernel_rfl) rfl rfl rfl rfl ?_
      repeat' (first|(apply OK_seq)|(apply thenQ_n)|(apply OK_region)|(refine OKx_idxAs Tryd.underlying120 rfl rfl (by omega) (by omega) ?_; rw [hi', Nat.zero_add])|(apply OKx_gl; refine OKx_ldRA rfl hpt ?_; rw [kdC_eq, hN', hT'])|(apply OKx_gc 60;exact rfl; refine OKx_callB (f := 60) rfl rfl rfl (fun w1 hp => hC w1 hp.below) ?_ ?_ <;> intro hq)|(apply OKx_gc 79;exact rfl; refine OKx_callV (f := 79) rfl rfl rfl (fun w1 hp => hG w1) ?_)|(apply OKx_nilK)|(apply OK_block)|(apply blockQ_n)|(apply blockQ_s)|(apply thenQ_e)|(apply blockQ_e;exact rfl)|(apply thenQ_r)|(apply blockQ_r)|(apply OK_condT;exact rfl)|(apply OK_condF;exact rfl)|(apply OK_skip)|(apply OK_exit)|(apply OK_ret)|(apply OKx_move;(conv=>lhs;whnf)<;>exact rfl)|(apply OKx_assign;(conv=>lhs;whnf)<;>exact rfl)|(apply OKx_ldB;exact rfl;(first | exact at0|exact at1|exact at2|exact at3|exact at4|exact at5|exact at6|exact at7);exact rfl)|(apply OKx_ldR;(conv=>lhs;whnf)<;>exact rfl;(with_reducible assumption))|(apply OKx_ldI;exact rfl;(first | exact at0|exact at1|exact at2|exact at3|exact at4|exact at5|exact at6|exact at7);omega)|(apply OKx_len;exact rfl)|(apply OKx_lenR;(conv=>lhs;whnf)<;>exact rfl;(with_reducible assumption))|(apply OKx_lenR2;(conv=>lhs;whnf)<;>exact rfl;(with_reducible assumption))|(apply OKx_lenO;(conv=>lhs;whnf)<;>exact rfl;(first | exact at0|exact at1|exact at2|exact at3|exact at4|exact at5|exact at6|exact at7))|(apply OKx_lss;exact rfl;exact rfl;all_goals (intro _; try (exfalso;omega)))|(apply OKx_gtr;exact rfl;exact rfl;all_goals (intro _; try (exfalso;omega)))|(apply OKx_geq;exact rfl;exact rfl;all_goals (intro _; try (exfalso;omega)))|(apply OKx_neq;exact rfl;exact rfl;all_goals (intro _; try (exfalso;omega)))|(apply OKx_sneq;exact rfl;exact rfl; all_goals intro _)|(apply OKx_idxR2;(conv=>lhs;whnf)<;>exact rfl;(with_reducible assumption);exact rfl;omega;intro _ _)|(apply OKx_fldO;exact rfl;exact rfl)|(apply OKx_fldR;(conv=>lhs;whnf)<;>exact rfl;(with_reducible assumption); decide;intro _ _)|(apply OKx_pickT;exact rfl;(conv=>lhs;whnf)<;>exact rfl)|(apply OKx_pickF;exact rfl;(conv=>lhs;whnf)<;>exact rfl)|(apply OKx_guardT;exact rfl;exact rfl)|(apply OKx_guardF;exact rfl;exact rfl)|(apply OKx_guardU;exact rfl;exact rfl)|(apply OKx_notT;exact rfl)|(apply OKx_notF;exact rfl)|(apply OKx_boxA;exact rfl;intro _)|(apply OKx_allocA;intro _)|(apply OKx_ldBA;exact rfl;(first | exact at0|exact at1|exact at2|exact at3|exact at4|exact at5|exact at6|exact at7);exact rfl)|(apply OKx_ldRA;(conv=>lhs;whnf)<;>exact rfl;(with_reducible assumption))|(apply OKx_ldBo;exact rfl;(first | exact at0|exact at1|exact at2|exact at3|exact at4|exact at5|exact at6|exact at7);omega)|(apply OKx_stBA; kernel_rfl;exact rfl;exact rfl;exact rfl;(first | exact at0|exact at1|exact at2|exact at3|exact at4|exact at5|exact at6|exact at7);exact rfl;exact rfl;exact rfl))
    all_goals
      refine bodyQ_r1 (by ((conv=>lhs;whnf)<;>exact rfl)) ?_
      refine ⟨_, Ent.nil, bool_eq ?_, rfl⟩
      rw [hn]
    all_goals first
      | (rw [show nodeB x.kind x.num x.text x.parts.length = false from Bool.eq_false_iff.2 fun h9 => by
          obtain ⟨_, _, a2, a3, a4, a5, a6, a7, a8⟩ := node_iff.1 h9
          rw [hi] at a7 a8
          first
            | omega
            | exact absurd (a4 hN) (by assumption)
            | exact absurd (a5 hT) (by assumption)
            | exact absurd (a6 hT) (by assumption), Bool.false_and])
      | (rw [node_iff.2 ⟨by omega, by omega, by omega, by omega, fun h => by first | omega | (rw [hN] at h; cases h), fun h => by first | assumption | (rw [hT] at h; cases h), fun h => by first | omega | (rw [hT] at h; cases h), by rw [hi];omega, fun h => by rw [hi] at h ⊢;omega⟩, Bool.true_and]
         simpa using hq)
set_option maxRecDepth 100000 in
set_option maxHeartbeats 4000000 in
theorem right_sat (v : Value) (x : Cnd) (w : World) (h : Exp w x v) (hk : KdL w) : SatV Tryd.prog 45 [v] w (.int .i64 (rgtE x)) := by
  have hM := fun w1 (hb : Below w.heap.size w w1) => measure_sat v x w1 (h.below hb)
  have hO := fun w1 (hb : Below w.heap.size w w1) => own_sat _ x (Nat.le_refl _) w1 v (h.below hb) (hk.below hb)
  obtain ⟨pv, g, rfl, _⟩ := h.shape
  unfold rgtE
  cases hm : mesB x
  · rw [hm] at hM
    rw [if_pos rfl]
    refine SatL.of 15 [2] Tryd.func45 (by kernel_rfl) (by kernel_rfl) rfl rfl rfl rfl ?_
    repeat' (first|(apply OK_seq)|(apply thenQ_n)|(apply OK_region)|(apply OKx_gc 55;exact rfl; refine OKx_call (f := 55) rfl rfl (fun w1 hp => hM w1 hp.below) ?_; rintro _ _ ⟨n', rfl, rfl, _⟩; rw [List.nil_append])|(apply OKx_nilK)|(apply OK_block)|(apply blockQ_n)|(apply blockQ_s)|(apply thenQ_e)|(apply blockQ_e;exact rfl)|(apply thenQ_r)|(apply blockQ_r)|(apply OK_condT;exact rfl)|(apply OK_condF;exact rfl)|(apply OK_skip)|(apply OK_exit)|(apply OK_ret)|(apply OKx_move;(conv=>lhs;whnf)<;>exact rfl)|(apply OKx_assign;(conv=>lhs;whnf)<;>exact rfl)|(apply OKx_notT;exact rfl)|(apply OKx_notF;exact rfl)|(apply OKx_extract;exact rfl;(conv=>lhs;whnf)<;>exact rfl)|(apply OKx_boxA;exact rfl;intro _)|(apply OKx_ldBA;exact rfl;(first | exact at0|exact at1|exact at2|exact at3|exact at4|exact at5|exact at6|exact at7);exact rfl)|(apply OKx_ldRA;(conv=>lhs;whnf)<;>exact rfl;(with_reducible assumption)))
    refine bodyQ_r1 (by ((conv=>lhs;whnf)<;>exact rfl)) ?_
    exact ⟨_, Ent.nil, rfl, rfl⟩
  · rw [hm] at hM
    rw [if_neg (by decide)]
    refine SatL.of 15 [2] Tryd.func45 (by kernel_rfl) (by kernel_rfl) rfl rfl rfl rfl ?_
    repeat' (first|(apply OK_seq)|(apply thenQ_n)|(apply OK_region)|(apply OKx_gc 55;exact rfl; refine OKx_call (f := 55) rfl rfl (fun w1 hp => hM w1 hp.below) ?_; rintro _ _ ⟨n', rfl, rfl, _⟩; rw [List.nil_append])|(apply OKx_gc 66;exact rfl; refine OKx_callB (f := 66) rfl rfl rfl (fun w1 hp => hO w1 hp.below) ?_ ?_ <;> intro hq)|(apply OKx_nilK)|(apply OK_block)|(apply blockQ_n)|(apply blockQ_s)|(apply thenQ_e)|(apply blockQ_e;exact rfl)|(apply thenQ_r)|(apply blockQ_r)|(apply OK_condT;exact rfl)|(apply OK_condF;exact rfl)|(apply OK_skip)|(apply OK_exit)|(apply OK_ret)|(apply OKx_move;(conv=>lhs;whnf)<;>exact rfl)|(apply OKx_assign;(conv=>lhs;whnf)<;>exact rfl)|(apply OKx_notT;exact rfl)|(apply OKx_notF;exact rfl)|(apply OKx_extract;exact rfl;(conv=>lhs;whnf)<;>exact rfl)|(apply OKx_boxA;exact rfl;intro _)|(apply OKx_ldBA;exact rfl;(first | exact at0|exact at1|exact at2|exact at3|exact at4|exact at5|exact at6|exact at7);exact rfl)|(apply OKx_ldRA;(conv=>lhs;whnf)<;>exact rfl;(with_reducible assumption)))
    all_goals
      refine bodyQ_r1 (by ((conv=>lhs;whnf)<;>exact rfl)) ?_
      exact ⟨_, Ent.nil, by rw [hq]; rfl, rfl⟩
set_option maxRecDepth 100000 in
set_option maxHeartbeats 4000000 in
theorem Size_sat (v : Value) (x : Cnd) (w : World) (h : Exp w x v) (hk : KdL w) : Sat Tryd.prog 30 [v] w (fun u L => ∃ k : Int, u = .tuple #[.int .i64 k, .int .i64 (rgtE x)] ∧ L = []) := by
  have hM := fun w1 (hb : Below w.heap.size w w1) => measure_sat v x w1 (h.below hb)
  have hR := fun w1 (hb : Below w.heap.size w w1) => right_sat v x w1 (h.below hb) (hk.below hb)
  obtain ⟨pv, g, rfl, _⟩ := h.shape
  by_cases h0 : rgtE x = 0
  · rw [h0] at hR
    rw [h0]
    refine SatL.of 18 [2, 3] Tryd.func30 (by kernel_rfl) (by kernel_rfl) rfl rfl rfl rfl ?_
    repeat' (first|(apply OK_seq)|(apply thenQ_n)|(apply OK_region)|(apply OKx_gc 55;exact rfl; refine OKx_call (f := 55) rfl rfl (fun w1 hp => hM w1 hp.below) ?_; rintro _ _ ⟨n', rfl, rfl, _⟩; rw [List.nil_append])|(apply OKx_gc 45;exact rfl; refine OKx_callV (f := 45) rfl rfl rfl (fun w1 hp => hR w1 hp.below) ?_)|(apply OKx_nilK)|(apply OK_block)|(apply blockQ_n)|(apply blockQ_s)|(apply thenQ_e)|(apply blockQ_e;exact rfl)|(apply thenQ_r)|(apply blockQ_r)|(apply OK_condT;exact rfl)|(apply OK_condF;exact rfl)|(apply OK_skip)|(apply OK_exit)|(apply OK_ret)|(apply OKx_move;(conv=>lhs;whnf)<;>exact rfl)|(apply OKx_assign;(conv=>lhs;whnf)<;>exact rfl)|(apply OKx_neq;exact rfl;exact rfl;all_goals (intro _; try (exfalso;omega)))|(apply OKx_extract;exact rfl;(conv=>lhs;whnf)<;>exact rfl)|(apply OKx_boxA;exact rfl;intro _)|(apply OKx_ldBA;exact rfl;(first | exact at0|exact at1|exact at2|exact at3|exact at4|exact at5|exact at6|exact at7);exact rfl)|(apply OKx_ldRA;(conv=>lhs;whnf)<;>exact rfl;(with_reducible assumption)))
    refine bodyQ_r2 (by ((conv=>lhs;whnf)<;>exact rfl)) (by ((conv=>lhs;whnf)<;>exact rfl)) ?_
    exact ⟨_, Ent.nil, _, rfl, rfl⟩
  · refine SatL.of 18 [2, 3] Tryd.func30 (by kernel_rfl) (by kernel_rfl) rfl rfl rfl rfl ?_
    repeat' (first|(apply OK_seq)|(apply thenQ_n)|(apply OK_region)|(apply OKx_gc 45;exact rfl; refine OKx_callV (f := 45) rfl rfl rfl (fun w1 hp => hR w1 hp.below) ?_)|(apply OKx_nilK)|(apply OK_block)|(apply blockQ_n)|(apply blockQ_s)|(apply thenQ_e)|(apply blockQ_e;exact rfl)|(apply thenQ_r)|(apply blockQ_r)|(apply OK_condT;exact rfl)|(apply OK_condF;exact rfl)|(apply OK_skip)|(apply OK_exit)|(apply OK_ret)|(apply OKx_move;(conv=>lhs;whnf)<;>exact rfl)|(apply OKx_assign;(conv=>lhs;whnf)<;>exact rfl)|(apply OKx_neq;exact rfl;exact rfl;all_goals (intro _; try (exfalso;omega)))|(apply OKx_extract;exact rfl;(conv=>lhs;whnf)<;>exact rfl)|(apply OKx_boxA;exact rfl;intro _)|(apply OKx_ldBA;exact rfl;(first | exact at0|exact at1|exact at2|exact at3|exact at4|exact at5|exact at6|exact at7);exact rfl)|(apply OKx_ldRA;(conv=>lhs;whnf)<;>exact rfl;(with_reducible assumption)))
    refine bodyQ_r2 (by ((conv=>lhs;whnf)<;>exact rfl)) (by ((conv=>lhs;whnf)<;>exact rfl)) ?_
    exact ⟨_, Ent.nil, _, rfl, rfl⟩
end Go.Proofs.YthnlnffmmioapaaDoor
namespace Go.Proofs.YthnlnffmmioapaaDoor
open Go.RowKit
def wdB (w : ByteArray) : Bool := decide (0 < w.size) && (decide (w.size ≤ 64) && !(byts w).contains 32)
theorem wdsB_all (l : List ByteArray) : wdsB l = (decide (l.length ≤ 1024) && l.all wdB) := rfl
set_option maxRecDepth 100000 in
set_option maxHeartbeats 4000000 in
theorem words1_sat (s : ByteArray) (w : World) : SatV Tryd.prog 57 [.string s] w (.bool (!wdB s)) := by
  have hC := fun w1 => contains_one_sat (byts s) 32 w1
  have hC2 : ∀ w1, SatV Tryd.prog 58 [.string s, .string ⟨#[32]⟩] w1 (.bool ((byts s).contains 32)) := fun w1 => by
    have := hC w1
    rwa [show bOf (byts s) = s from bOf_data s, show decide ((32 : UInt8) ∈ byts s) = (byts s).contains 32 by simp] at this
  have hz := size_nil s
  refine SatL.of 14 [2] Tryd.func57 (by kernel_rfl) (by kernel_rfl) rfl rfl rfl rfl ?_
  repeat' (first|(apply OK_seq)|(apply thenQ_n)|(apply OK_region)|(apply OKx_gc 58;exact rfl; refine OKx_callB (f := 58) rfl rfl rfl (fun w1 hp => hC2 w1) ?_ ?_ <;> intro hq)|(apply OKx_nilK)|(apply OK_block)|(apply blockQ_n)|(apply blockQ_s)|(apply thenQ_e)|(apply blockQ_e;exact rfl)|(apply thenQ_r)|(apply blockQ_r)|(apply OK_condT;exact rfl)|(apply OK_condF;exact rfl)|(apply OK_skip)|(apply OK_exit)|(apply OK_ret)|(apply OKx_move;(conv=>lhs;whnf)<;>exact rfl)|(apply OKx_assign;(conv=>lhs;whnf)<;>exact rfl)|(apply OKx_lenS;exact rfl)|(apply OKx_gtr;exact rfl;exact rfl;all_goals (intro _; try (exfalso;omega)))|(apply OKx_seql;exact rfl;exact rfl; all_goals intro _)|(apply OKx_pickT;exact rfl;(conv=>lhs;whnf)<;>exact rfl)|(apply OKx_pickF;exact rfl;(conv=>lhs;whnf)<;>exact rfl)|(apply OKx_guardT;exact rfl;exact rfl)|(apply OKx_guardF;exact rfl;exact rfl)|(apply OKx_guardU;exact rfl;exact rfl))
  all_goals
    refine bodyQ_r1 (by ((conv=>lhs;whnf)<;>exact rfl)) ?_
    refine ⟨_, Ent.nil, bool_eq ?_, rfl⟩
    unfold wdB
  all_goals first
    | (rw [decide_eq_false (by rw [hz.2 (by assumption)];omega), Bool.false_and]; rfl)
    | (rw [decide_eq_false (show ¬ s.size ≤ 64 by omega), Bool.false_and, Bool.and_false]; rfl)
    | (rw [decide_eq_true (show 0 < s.size from Nat.pos_of_ne_zero fun e => absurd (hz.1 e) (by assumption)), decide_eq_true (show s.size ≤ 64 by omega), hq]; rfl)
theorem anyN_nots {p : Nat → Bool} {α : Type} {xs : List α} {f : α → Bool} (h : ∀ j, (hj : j < xs.length) → p j = !f xs[j]) : anyN p xs.length = !(xs.all f) := by
  unfold anyN
  rw [Bool.eq_iff_iff, List.any_eq_true, Bool.not_eq_true', List.all_eq_false]
  constructor
  · rintro ⟨j, hj, e⟩
    rw [List.mem_range] at hj
    rw [h j hj] at e
    exact ⟨_, List.getElem_mem hj, by simpa using e⟩
  · rintro ⟨x, hx, e⟩
    obtain ⟨j, hj, rfl⟩ := List.getElem_of_mem hx
    exact ⟨j, List.mem_range.2 hj, by rw [h j hj]; simpa using e⟩
set_option maxRecDepth 100000 in
set_option maxHeartbeats 4000000 in
theorem words_sat (v : Value) (l : List ByteArray) (w : World) (h : Strs w v l) : SatV Tryd.prog 33 [v] w (.bool (wdsB l)) := by
  obtain ⟨a, c, rfl, hl, _⟩ := h.at
  have hsl := h.sl
  have hC : ∀ w1, Below w.heap.size w w1 → SatV Tryd.prog 56 [.slice a l.length c, .func (.func 57) #[] #[]] w1 (.bool (!(l.all wdB))) := fun w1 hb => by
    have := containsF_str_sat _ l.length _ (fun j => !wdB (l.getD j ByteArray.empty)) 57 #[] w1 (hsl.below hb) (fun j hj w2 hb2 => words1_sat _ w2)
    rwa [anyN_nots (f := wdB) (fun j hj => by rw [getD_lt _ _ _ hj])] at this
  rw [wdsB_all]
  refine SatL.of 11 [2] Tryd.func33 (by kernel_rfl) (by kernel_rfl) rfl rfl rfl rfl ?_
  repeat' (first|(apply OK_seq)|(apply thenQ_n)|(apply OK_region)|(apply OKx_gc 56;exact rfl; refine OKx_callB (f := 56) rfl rfl rfl (fun w1 hp => hC w1 hp.below) ?_ ?_ <;> intro hq)|(apply OKx_nilK)|(apply OK_block)|(apply blockQ_n)|(apply blockQ_s)|(apply thenQ_e)|(apply blockQ_e;exact rfl)|(apply thenQ_r)|(apply blockQ_r)|(apply OK_condT;exact rfl)|(apply OK_condF;exact rfl)|(apply OK_skip)|(apply OK_exit)|(apply OK_ret)|(apply OKx_move;(conv=>lhs;whnf)<;>exact rfl)|(apply OKx_assign;(conv=>lhs;whnf)<;>exact rfl)|(apply OKx_len;exact rfl)|(apply OKx_lenR;(conv=>lhs;whnf)<;>exact rfl;(with_reducible assumption))|(apply OKx_lenR2;(conv=>lhs;whnf)<;>exact rfl;(with_reducible assumption))|(apply OKx_lenO;(conv=>lhs;whnf)<;>exact rfl;(first | exact at0|exact at1|exact at2|exact at3|exact at4|exact at5|exact at6|exact at7))|(apply OKx_leq;exact rfl;exact rfl;all_goals (intro _; try (exfalso;omega)))|(apply OKx_pickT;exact rfl;(conv=>lhs;whnf)<;>exact rfl)|(apply OKx_pickF;exact rfl;(conv=>lhs;whnf)<;>exact rfl)|(apply OKx_guardT;exact rfl;exact rfl)|(apply OKx_guardF;exact rfl;exact rfl)|(apply OKx_guardU;exact rfl;exact rfl)|(apply OKx_notT;exact rfl)|(apply OKx_notF;exact rfl))
  all_goals
    refine bodyQ_r1 (by ((conv=>lhs;whnf)<;>exact rfl)) ?_
    refine ⟨_, Ent.nil, bool_eq ?_, rfl⟩
  all_goals first
    | (rw [decide_eq_true (show l.length ≤ 1024 by omega), Bool.true_and]; simpa using hq)
    | rw [decide_eq_false (show ¬ l.length ≤ 1024 by omega), Bool.false_and]
def srcOk (l : List Int) (i : Nat) : Bool := (decide (0 ≤ l.getD i 0) && decide (l.getD i 0 < 32)) && (decide (i = 0) || decide (l.getD (i - 1) 0 < l.getD i 0))
theorem srcOk_iff (l : List Int) (i : Nat) : srcOk l i = true ↔ (0 ≤ l.getD i 0 ∧ l.getD i 0 < 32) ∧ (i = 0 ∨ l.getD (i - 1) 0 < l.getD i 0) := by
  unfold srcOk
  simp only [Bool.and_eq_true, Bool.or_eq_true, decide_eq_true_eq]
theorem srcB_all (l : List Int) : srcB l = (List.range l.length).all (srcOk l) := by
  unfold srcB
  rw [Bool.eq_iff_iff, Bool.and_eq_true, List.all_eq_true, List.all_eq_true, List.all_eq_true]
  constructor
  · rintro ⟨h1, h2⟩ i hi
    have hi' := List.mem_range.1 hi
    unfold srcOk
    rw [h2 i hi, Bool.and_true]
    exact h1 _ (by rw [getD_lt _ _ _ hi']; exact List.getElem_mem hi')
  · intro h
    refine ⟨fun x hx => ?_, fun i hi => ?_⟩
    · obtain ⟨i, hi, rfl⟩ := List.getElem_of_mem hx
      have := h i (List.mem_range.2 hi)
      unfold srcOk at this
      rw [Bool.and_eq_true, getD_lt _ _ _ hi] at this
      exact this.1
    · have := h i hi
      unfold srcOk at this
      rw [Bool.and_eq_true] at this
      exact this.2
set_option maxRecDepth 100000 in
set_option maxHeartbeats 4000000 in
theorem reading_sat (v : Value) (r : Rdn) (w : World) (h : RdnV w r v) : SatV Tryd.prog 34 [v] w (.bool (rdgB r)) := by
  obtain ⟨wv, sv, rfl, hW, hS⟩ := h
  obtain ⟨sa, sc, rfl, _⟩ := hS.at
  have hsl := hS.sl
  have hb := hsl.bound
  have hw := fun w1 (hb : Below w.heap.size w w1) => words_sat wv r.words w1 (hW.below hb)
  unfold rdgB
  rw [srcB_all]
  refine SatL.of 37 [2] Tryd.func34 (by kernel_rfl) (by kernel_rfl) rfl rfl rfl rfl ?_
  repeat' (first|(apply OK_seq)|(apply thenQ_n)|(apply OK_region)|(apply OKx_nilK)|(apply OK_block)|(apply blockQ_n)|(apply blockQ_s)|(apply thenQ_e)|(apply blockQ_e;exact rfl)|(apply thenQ_r)|(apply blockQ_r)|(apply OK_condT;exact rfl)|(apply OK_condF;exact rfl)|(apply OK_skip)|(apply OK_exit)|(apply OK_ret)|(apply OKx_move;(conv=>lhs;whnf)<;>exact rfl)|(apply OKx_assign;(conv=>lhs;whnf)<;>exact rfl)|(apply OKx_ldB;exact rfl;(first | exact at0|exact at1|exact at2|exact at3|exact at4|exact at5|exact at6|exact at7);exact rfl)|(apply OKx_ldR;(conv=>lhs;whnf)<;>exact rfl;(with_reducible assumption))|(apply OKx_ldI;exact rfl;(first | exact at0|exact at1|exact at2|exact at3|exact at4|exact at5|exact at6|exact at7);omega)|(apply OKx_len;exact rfl)|(apply OKx_lenR;(conv=>lhs;whnf)<;>exact rfl;(with_reducible assumption))|(apply OKx_lenR2;(conv=>lhs;whnf)<;>exact rfl;(with_reducible assumption))|(apply OKx_lenO;(conv=>lhs;whnf)<;>exact rfl;(first | exact at0|exact at1|exact at2|exact at3|exact at4|exact at5|exact at6|exact at7))|(apply OKx_lss;exact rfl;exact rfl;all_goals (intro _; try (exfalso;omega)))|(apply OKx_leq;exact rfl;exact rfl;all_goals (intro _; try (exfalso;omega)))|(apply OKx_gtr;exact rfl;exact rfl;all_goals (intro _; try (exfalso;omega)))|(apply OKx_geq;exact rfl;exact rfl;all_goals (intro _; try (exfalso;omega)))|(apply OKx_idxO;exact rfl;exact rfl;omega)|(apply OKx_idxR;(conv=>lhs;whnf)<;>exact rfl;(with_reducible assumption);exact rfl;omega;intro _ _)|(apply OKx_idxOz;exact rfl;exact rfl;omega;omega)|(apply OKx_idxRz;(conv=>lhs;whnf)<;>exact rfl;(with_reducible assumption);exact rfl;omega;omega;intro _ _)|(apply OKx_fldO;exact rfl;exact rfl)|(apply OKx_fldR;(conv=>lhs;whnf)<;>exact rfl;(with_reducible assumption); decide;intro _ _)|(apply OKx_inc;exact rfl;exact rfl;omega)|(apply OKx_addN;exact rfl;exact rfl;omega)|(apply OKx_add;exact rfl;exact rfl;omega;omega)|(apply OKx_dec;exact rfl;exact rfl;omega;omega)|(apply OKx_subN;exact rfl;exact rfl;omega;omega)|(apply OKx_sub;exact rfl;exact rfl;omega;omega)|(apply OKx_pickT;exact rfl;(conv=>lhs;whnf)<;>exact rfl)|(apply OKx_pickF;exact rfl;(conv=>lhs;whnf)<;>exact rfl)|(apply OKx_guardT;exact rfl;exact rfl)|(apply OKx_guardF;exact rfl;exact rfl)|(apply OKx_guardU;exact rfl;exact rfl)|(apply OKx_boxA;exact rfl;intro _))
  rename_i g0
  refine OK_loop1 8 [2, 3, 4, 8, 9, 10, 11, 12, 13, 14, 15, 16, 17, 18, 19, 20, 21, 22, 23, 24, 25, 26, 27, 28, 29, 30, 31, 32, 33] (fun m v L => ∃ k : Nat, k + m = r.src.length ∧ v = .int .i64 (k : Int) ∧ (∀ j, j < k → srcOk r.src j = true) ∧ L = [.box 28 g0 [wv, .slice sa r.src.length sc]]) r.src.length _ (Ent.refl _ _) ⟨0, by omega, rfl, fun j hj => absurd hj (by omega), rfl⟩ ?_
  rintro m v' L G ⟨k, hm, rfl, H, rfl⟩
  repeat' (first|(apply OK_seq)|(apply thenQ_n)|(apply OK_region)|(apply OKx_gc 33;exact rfl; refine OKx_callV (f := 33) rfl rfl rfl (fun w1 hp => hw w1 hp.below) ?_)|(apply OKx_nilK)|(apply OK_block)|(apply blockQ_n)|(apply blockQ_s)|(apply thenQ_e)|(apply blockQ_e;exact rfl)|(apply thenQ_r)|(apply blockQ_r)|(apply OK_condT;exact rfl)|(apply OK_condF;exact rfl)|(apply OK_skip)|(apply OK_exit)|(apply OK_ret)|(apply OKx_move;(conv=>lhs;whnf)<;>exact rfl)|(apply OKx_assign;(conv=>lhs;whnf)<;>exact rfl)|(apply OKx_ldB;exact rfl;(first | exact at0|exact at1|exact at2|exact at3|exact at4|exact at5|exact at6|exact at7);exact rfl)|(apply OKx_ldR;(conv=>lhs;whnf)<;>exact rfl;(with_reducible assumption))|(apply OKx_ldI;exact rfl;(first | exact at0|exact at1|exact at2|exact at3|exact at4|exact at5|exact at6|exact at7);omega)|(apply OKx_len;exact rfl)|(apply OKx_lenR;(conv=>lhs;whnf)<;>exact rfl;(with_reducible assumption))|(apply OKx_lenR2;(conv=>lhs;whnf)<;>exact rfl;(with_reducible assumption))|(apply OKx_lenO;(conv=>lhs;whnf)<;>exact rfl;(first | exact at0|exact at1|exact at2|exact at3|exact at4|exact at5|exact at6|exact at7))|(apply OKx_lss;exact rfl;exact rfl;all_goals (intro _; try (exfalso;omega)))|(apply OKx_leq;exact rfl;exact rfl;all_goals (intro _; try (exfalso;omega)))|(apply OKx_gtr;exact rfl;exact rfl;all_goals (intro _; try (exfalso;omega)))|(apply OKx_geq;exact rfl;exact rfl;all_goals (intro _; try (exfalso;omega)))|(apply OKx_idxO;exact rfl;exact rfl;omega)|(apply OKx_idxR;(conv=>lhs;whnf)<;>exact rfl;(with_reducible assumption);exact rfl;omega;intro _ _)|(apply OKx_idxOz;exact rfl;exact rfl;omega;omega)|(apply OKx_idxRz;(conv=>lhs;whnf)<;>exact rfl;(with_reducible assumption);exact rfl;omega;omega;intro _ _)|(apply OKx_fldO;exact rfl;exact rfl)|(apply OKx_fldR;(conv=>lhs;whnf)<;>exact rfl;(with_reducible assumption); decide;intro _ _)|(apply OKx_inc;exact rfl;exact rfl;omega)|(apply OKx_addN;exact rfl;exact rfl;omega)|(apply OKx_add;exact rfl;exact rfl;omega;omega)|(apply OKx_dec;exact rfl;exact rfl;omega;omega)|(apply OKx_subN;exact rfl;exact rfl;omega;omega)|(apply OKx_sub;exact rfl;exact rfl;omega;omega)|(apply OKx_pickT;exact rfl;(conv=>lhs;whnf)<;>exact rfl)|(apply OKx_pickF;exact rfl;(conv=>lhs;whnf)<;>exact rfl)|(apply OKx_guardT;exact rfl;exact rfl)|(apply OKx_guardF;exact rfl;exact rfl)|(apply OKx_guardU;exact rfl;exact rfl)|(apply OKx_boxA;exact rfl;intro _))
  iterate 3
    · refine bodyQ_r1 (by ((conv=>lhs;whnf)<;>exact rfl)) ?_
      refine ⟨_, Ent.nil, bool_eq ?_, rfl⟩
      rw [eq_comm, Bool.eq_false_iff]
      intro h9
      rw [Bool.and_eq_true, List.all_eq_true] at h9
      have := (srcOk_iff _ _).1 (h9.1 k (List.mem_range.2 (by omega)))
      omega
  iterate 2
    · refine ⟨by (repeat' (first | refine agree_upd rfl ?_ | exact agree_over | exact agree_refl _ _ | refine agree_over2 rfl ?_)), m - 1, _, by omega, Ent.refl _ _, ?_⟩
      refine ⟨k + 1, by omega, rfl, fun j hj => ?_, rfl⟩
      by_cases hjk : j < k
      · exact H j hjk
      · obtain rfl : j = k := by omega
        exact (srcOk_iff _ _).2 (by omega)
  · refine bodyQ_r1 (by ((conv=>lhs;whnf)<;>exact rfl)) ?_
    refine ⟨_, Ent.nil, bool_eq ?_, rfl⟩
    rw [show (List.range r.src.length).all (srcOk r.src) = true from List.all_eq_true.2 fun j hj => H j (by rw [List.mem_range] at hj;omega), Bool.true_and]
set_option maxRecDepth 100000 in
set_option maxHeartbeats 4000000 in
theorem condition_sat (v : Value) (x : Cnd) (w : World) (h : Exp w x v) (hk : KdL w) : SatV Tryd.prog 32 [v] w (.bool (decide (rgtE x = 0))) := by
  have hS := fun w1 (hb : Below w.heap.size w w1) => Size_sat v x w1 (h.below hb) (hk.below hb)
  obtain ⟨pv, g, rfl, _⟩ := h.shape
  refine SatL.of 12 [2] Tryd.func32 (by kernel_rfl) (by kernel_rfl) rfl rfl rfl rfl ?_
  repeat' (first|(apply OK_seq)|(apply thenQ_n)|(apply OK_region)|(apply OKx_gc 30;exact rfl; refine OKx_call (f := 30) rfl rfl (fun w1 hp => hS w1 hp.below) ?_; rintro _ _ ⟨k, rfl, rfl⟩; rw [List.nil_append])|(apply OKx_nilK)|(apply OK_block)|(apply blockQ_n)|(apply blockQ_s)|(apply thenQ_e)|(apply blockQ_e;exact rfl)|(apply thenQ_r)|(apply blockQ_r)|(apply OK_condT;exact rfl)|(apply OK_condF;exact rfl)|(apply OK_skip)|(apply OK_exit)|(apply OK_ret)|(apply OKx_move;(conv=>lhs;whnf)<;>exact rfl)|(apply OKx_assign;(conv=>lhs;whnf)<;>exact rfl)|(apply OKx_eql;exact rfl;exact rfl;all_goals (intro _; try (exfalso;omega)))|(apply OKx_extract;exact rfl;(conv=>lhs;whnf)<;>exact rfl)|(apply OKx_boxA;exact rfl;intro _)|(apply OKx_ldBA;exact rfl;(first | exact at0|exact at1|exact at2|exact at3|exact at4|exact at5|exact at6|exact at7);exact rfl)|(apply OKx_ldRA;(conv=>lhs;whnf)<;>exact rfl;(with_reducible assumption)))
  all_goals
    refine bodyQ_r1 (by ((conv=>lhs;whnf)<;>exact rfl)) ?_
    refine ⟨_, Ent.nil, bool_eq ?_, rfl⟩
  all_goals first
    | rw [decide_eq_true (by assumption)]
    | rw [decide_eq_false (by assumption)]
end Go.Proofs.YthnlnffmmioapaaDoor
