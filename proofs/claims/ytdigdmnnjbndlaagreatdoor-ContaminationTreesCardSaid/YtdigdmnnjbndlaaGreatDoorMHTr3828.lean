/-
  Part 28 of the proof: Tr38, OpenX, Crd. No statement of the seat is proved here.
-/
import Derived.Test.YtdigdmnnjbndlaaGreatDoorMHTr3827
import Derived.Test.YtdigdmnnjbndlaaGreatDoorRows
import Derived.HandedShaped
import Derived.LaidMore
import Derived.Lay
namespace Go.Proofs.YtdigdmnnjbndlaaGreatDoor
open Go.RowKit
theorem idxFrom_at (x : Int) : ∀ (zs : List Int) (i : Nat), 0 ≤ Lib.idxFrom zs x i → ∃ q : Nat, Lib.idxFrom zs x i = ((i + q : Nat) : Int) ∧ q < zs.length ∧ zs.getD q 0 = x
  | [], i, h => by simp [Lib.idxFrom] at h
  | z :: zs, i, h => by
    simp only [Lib.idxFrom] at h ⊢
    split at h
    · rename_i e; rw [if_pos e]; exact ⟨0, rfl, by simp, e.symm ▸ rfl⟩
    · rename_i e
      obtain ⟨q, h1, h2, h3⟩ := idxFrom_at x zs (i + 1) h
      rw [if_neg e]
      exact ⟨q + 1, by rw [h1]; congr 1;omega, by simpa using h2, by simpa using h3⟩
theorem idxFrom_in (x : Int) : ∀ (zs : List Int) (i : Nat), x ∈ zs → 0 ≤ Lib.idxFrom zs x i
  | [], i, h => by cases h
  | z :: zs, i, h => by
    simp only [Lib.idxFrom]
    split
    · omega
    · rename_i e
      rcases List.mem_cons.1 h with h | h
      · exact absurd h.symm (by simpa using e)
      · exact idxFrom_in x zs (i + 1) h
theorem lvs_asc (t : Tre) : (lvs t).Pairwise (· < ·) := by
  unfold lvs lvL
  rw [List.pairwise_map]
  exact (List.Pairwise.filter _ List.pairwise_lt_range).imp (fun h => by omega)
theorem lvs_idx (t : Tre) (k : Nat) (hk : k < (lvs t).length) (x : Int) : Lib.idxOf (lvs t) x = (k : Int) ↔ (lvs t).getD k 0 = x := by
  unfold Lib.idxOf
  constructor
  · intro h
    obtain ⟨q, h1, h2, h3⟩ := idxFrom_at x (lvs t) 0 (by omega)
    obtain rfl : q = k := by omega
    exact h3
  · intro h
    have hm : x ∈ lvs t := by rw [← h, getD_lt _ _ _ hk]; exact List.getElem_mem _
    obtain ⟨q, h1, h2, h3⟩ := idxFrom_at x (lvs t) 0 (idxFrom_in x _ _ hm)
    have hp := List.pairwise_iff_getElem.1 (lvs_asc t)
    rw [getD_lt _ _ _ hk] at h
    rw [getD_lt _ _ _ h2] at h3
    rcases Nat.lt_trichotomy q k with hlt | heq | hgt
    · have := hp q k h2 hk hlt;omega
    · rw [h1];omega
    · have := hp k q hk h2 hgt;omega
theorem lvs_rng (t : Tre) (k : Nat) (hk : k < (lvs t).length) : ∃ q : Nat, (lvs t).getD k 0 = (q : Int) ∧ q < t.names.length := by
  have hm : (lvs t).getD k 0 ∈ lvs t := by rw [getD_lt _ _ _ hk]; exact List.getElem_mem _
  have hm2 := hm
  unfold lvs lvL at hm2
  rw [List.mem_map] at hm2
  obtain ⟨q, hq, e⟩ := hm2
  rw [List.mem_filter, List.mem_range] at hq
  exact ⟨q, e.symm, hq.1⟩
def pkI (ps : List Int) (q : Nat) : Int := ps.getD (q % ps.length) 0 % 4 - 1
def ownL (ps : List Int) (k : Nat) : List Int := (List.range k).map (pkI ps)
theorem ownL_step (ps : List Int) (k : Nat) : ownL ps (k + 1) = ownL ps k ++ [pkI ps k] := by
  unfold ownL; rw [List.range_succ, List.map_append]; rfl
theorem ownL_len (ps : List Int) (k : Nat) : (ownL ps k).length = k := by simp [ownL]
def stK (t : Tre) (ps : List Int) (k : Nat) : List Int := (List.range t.par.length).map fun i : Nat => if 0 ≤ Lib.idxOf (lvs t) (i : Int) ∧ Lib.idxOf (lvs t) (i : Int) < (k : Int) then pkI ps (Lib.idxOf (lvs t) (i : Int)).toNat else -1
theorem stK_len (t : Tre) (ps : List Int) (k : Nat) : (stK t ps k).length = t.par.length := by simp [stK]
theorem stK_zero (t : Tre) (ps : List Int) : stK t ps 0 = List.replicate t.par.length (-1) := by
  refine List.ext_getElem (by simp [stK]) fun j h1 h2 => ?_
  simp only [stK, List.getElem_map, List.getElem_range, List.getElem_replicate]
  rw [if_neg (by omega)]
theorem stK_step (t : Tre) (ps : List Int) (k q : Nat) (hk : k < (lvs t).length) (hq : (lvs t).getD k 0 = (q : Int)) : (stK t ps k).set q (pkI ps k) = stK t ps (k + 1) := by
  refine List.ext_getElem (by simp [stK]) fun j h1 h2 => ?_
  rw [List.getElem_set]
  have hi := lvs_idx t k hk (j : Int)
  simp only [stK, List.getElem_map, List.getElem_range]
  by_cases e : q = j
  · subst e
    have := hi.2 hq
    rw [if_pos rfl, if_pos (by omega), this]
    rfl
  · rw [if_neg e]
    have : Lib.idxOf (lvs t) (j : Int) ≠ (k : Int) := fun h => e (by have := hi.1 h;omega)
    by_cases h : 0 ≤ Lib.idxOf (lvs t) (j : Int) ∧ Lib.idxOf (lvs t) (j : Int) < (k : Int)
    · rw [if_pos h, if_pos (by omega)]
    · rw [if_neg h, if_neg (by omega)]
theorem stK_end (t : Tre) (ps : List Int) : stK t ps (lvs t).length = nodS t (ownL ps (lvs t).length) := by
  unfold stK nodS
  refine List.map_congr_left fun i _ => ?_
  unfold knT
  have hr := idxOf_rng (lvs t) (i : Int)
  by_cases h : 0 ≤ Lib.idxOf (lvs t) (i : Int)
  · rw [if_pos (by omega), if_pos h]
    have : (Lib.idxOf (lvs t) (i : Int)).toNat < (lvs t).length := by omega
    simp [ownL, this]
  · rw [if_neg (by omega), if_neg h]
theorem ownL_rng {ps : List Int} (_hb : ∀ i ∈ ps, 0 ≤ i ∧ i ≤ 255) (k : Nat) : ∀ x ∈ ownL ps k, -1 ≤ x ∧ x < 3 := fun x hx => by
  unfold ownL at hx
  rw [List.mem_map] at hx
  obtain ⟨q, _, rfl⟩ := hx
  unfold pkI
  omega
set_option maxRecDepth 100000 in
set_option maxHeartbeats 4000000 in
theorem ContaminationTrees_sat (v pv8 : Value) (t : Tre) (ps : List Int) (w : World) (h : Tri w v t) (hp8 : U8s w pv8 ps) (hb8 : ∀ i ∈ ps, 0 ≤ i ∧ i ≤ 255) (_hm : MxL w) : SatV Tryz.prog 3 [v, pv8] w (.bool true) := by
  have ht := h
  obtain ⟨pv, nv, rfl, hP, hN⟩ := h
  have hpsl : Sl w pv8 1 ps.length (fun j => .int .u8 (ps.getD j 0)) := hp8
  have hpb := hpsl.bound
  have hparl := hP.sl
  have hparb := hparl.bound
  have hgr := fun w1 (hb : Below w.heap.size w w1) => Great31_sat _ t 9 w1 (ht.below hb)
  have hc1 := fun w1 (hb : Below w.heap.size w w1) => rCheck31_sat _ t w1 (ht.below hb)
  by_cases hf : great31 t 9 = false ∧ treC t = 0 ∧ t.par.length ≤ 9 ∧ ps.length ≠ 0
  rotate_left
  · cases hg : great31 t 9 with
    | true =>
      rw [hg] at hgr
      refine SatL.of 127 [4] Tryz.func3 (by kernel_rfl) (by kernel_rfl) rfl rfl rfl rfl ?_
      repeat' (first|(apply OK_seq)|(apply thenQ_n)|(apply OK_region)|(apply OKx_gc 7;exact rfl; refine OKx_callV (f := 7) rfl rfl rfl (fun w1 hp => hgr w1 hp.below) ?_)|(apply OKx_gc 9;exact rfl; refine OKx_callV (f := 9) rfl rfl rfl (fun w1 hp => awake38_sat w1) ?_)|(apply OKx_nilK)|(apply OK_block)|(apply blockQ_n)|(apply blockQ_s)|(apply thenQ_e)|(apply blockQ_e;exact rfl)|(apply thenQ_r)|(apply blockQ_r)|(apply OK_condT;exact rfl)|(apply OK_condF;exact rfl)|(apply OK_skip)|(apply OK_exit)|(apply OK_ret)|(apply OKx_move;(conv=>lhs;whnf)<;>exact rfl)|(apply OKx_assign;(conv=>lhs;whnf)<;>exact rfl)|(apply OKx_ldB;exact rfl;(first | exact at0|exact at1|exact at2|exact at3|exact at4|exact at5|exact at6|exact at7);exact rfl)|(apply OKx_ldR;(conv=>lhs;whnf)<;>exact rfl;(with_reducible assumption))|(apply OKx_ldI;exact rfl;(first | exact at0|exact at1|exact at2|exact at3|exact at4|exact at5|exact at6|exact at7);omega)|(apply OKx_len;exact rfl)|(apply OKx_lenR;(conv=>lhs;whnf)<;>exact rfl;(with_reducible assumption))|(apply OKx_lenR2;(conv=>lhs;whnf)<;>exact rfl;(with_reducible assumption))|(apply OKx_lenO;(conv=>lhs;whnf)<;>exact rfl;(first | exact at0|exact at1|exact at2|exact at3|exact at4|exact at5|exact at6|exact at7))|(apply OKx_lss;exact rfl;exact rfl;all_goals (intro _; try (exfalso;omega)))|(apply OKx_gtr;exact rfl;exact rfl;all_goals (intro _; try (exfalso;omega)))|(apply OKx_eql;exact rfl;exact rfl;all_goals (intro _; try (exfalso;omega)))|(apply OKx_neq;exact rfl;exact rfl;all_goals (intro _; try (exfalso;omega)))|(apply OKx_idxO;exact rfl;exact rfl;omega)|(apply OKx_idxR;(conv=>lhs;whnf)<;>exact rfl;(with_reducible assumption);exact rfl;omega;intro _ _)|(apply OKx_idxOz;exact rfl;exact rfl;omega;omega)|(apply OKx_idxRz;(conv=>lhs;whnf)<;>exact rfl;(with_reducible assumption);exact rfl;omega;omega;intro _ _)|(apply OKx_fldO;exact rfl;exact rfl)|(apply OKx_fldR;(conv=>lhs;whnf)<;>exact rfl;(with_reducible assumption); decide;intro _ _)|(apply OKx_inc;exact rfl;exact rfl;omega)|(apply OKx_addN;exact rfl;exact rfl;omega)|(apply OKx_add;exact rfl;exact rfl;omega;omega)|(apply OKx_dec;exact rfl;exact rfl;omega;omega)|(apply OKx_subN;exact rfl;exact rfl;omega;omega)|(apply OKx_sub;exact rfl;exact rfl;omega;omega)|(apply OKx_pickT;exact rfl;(conv=>lhs;whnf)<;>exact rfl)|(apply OKx_pickF;exact rfl;(conv=>lhs;whnf)<;>exact rfl)|(apply OKx_guardT;exact rfl;exact rfl)|(apply OKx_guardF;exact rfl;exact rfl)|(apply OKx_guardU;exact rfl;exact rfl)|(apply OKx_extract;exact rfl;(conv=>lhs;whnf)<;>exact rfl)|(apply OKx_boxA;exact rfl;intro _)|(apply OKx_allocA;intro _)|(apply OKx_ldBA;exact rfl;(first | exact at0|exact at1|exact at2|exact at3|exact at4|exact at5|exact at6|exact at7);exact rfl)|(apply OKx_ldRA;(conv=>lhs;whnf)<;>exact rfl;(with_reducible assumption))|(apply OKx_stI;exact rfl;exact rfl;(first | exact at0|exact at1|exact at2|exact at3|exact at4|exact at5|exact at6|exact at7);omega;exact rfl)|(apply OKx_stB;exact rfl;(conv=>lhs;whnf)<;>exact rfl;exact rfl;exact rfl;(first | exact at0|exact at1|exact at2|exact at3|exact at4|exact at5|exact at6|exact at7);exact rfl;exact rfl;exact rfl)|(apply OKx_slit1;(conv=>lhs;whnf)<;>exact rfl;exact rfl;intro _)|(apply OKx_stBA; kernel_rfl;exact rfl;exact rfl;exact rfl;(first | exact at0|exact at1|exact at2|exact at3|exact at4|exact at5|exact at6|exact at7);exact rfl;exact rfl;exact rfl))
      refine bodyQ_r1 (by ((conv=>lhs;whnf)<;>exact rfl)) ?_
      exact ⟨_, Ent.nil, rfl, rfl⟩
    | false =>
      rw [hg] at hgr
      by_cases hc : treC t = 0
      rotate_left
      · refine SatL.of 127 [4] Tryz.func3 (by kernel_rfl) (by kernel_rfl) rfl rfl rfl rfl ?_
        repeat' (first|(apply OK_seq)|(apply thenQ_n)|(apply OK_region)|(apply OKx_gc 7;exact rfl; refine OKx_callV (f := 7) rfl rfl rfl (fun w1 hp => hgr w1 hp.below) ?_)|(apply OKx_gc 8;exact rfl; refine OKx_callV (f := 8) rfl rfl rfl (fun w1 hp => hc1 w1 hp.below) ?_)|(apply OKx_gc 9;exact rfl; refine OKx_callV (f := 9) rfl rfl rfl (fun w1 hp => awake38_sat w1) ?_)|(apply OKx_nilK)|(apply OK_block)|(apply blockQ_n)|(apply blockQ_s)|(apply thenQ_e)|(apply blockQ_e;exact rfl)|(apply thenQ_r)|(apply blockQ_r)|(apply OK_condT;exact rfl)|(apply OK_condF;exact rfl)|(apply OK_skip)|(apply OK_exit)|(apply OK_ret)|(apply OKx_move;(conv=>lhs;whnf)<;>exact rfl)|(apply OKx_assign;(conv=>lhs;whnf)<;>exact rfl)|(apply OKx_ldB;exact rfl;(first | exact at0|exact at1|exact at2|exact at3|exact at4|exact at5|exact at6|exact at7);exact rfl)|(apply OKx_ldR;(conv=>lhs;whnf)<;>exact rfl;(with_reducible assumption))|(apply OKx_ldI;exact rfl;(first | exact at0|exact at1|exact at2|exact at3|exact at4|exact at5|exact at6|exact at7);omega)|(apply OKx_len;exact rfl)|(apply OKx_lenR;(conv=>lhs;whnf)<;>exact rfl;(with_reducible assumption))|(apply OKx_lenR2;(conv=>lhs;whnf)<;>exact rfl;(with_reducible assumption))|(apply OKx_lenO;(conv=>lhs;whnf)<;>exact rfl;(first | exact at0|exact at1|exact at2|exact at3|exact at4|exact at5|exact at6|exact at7))|(apply OKx_lss;exact rfl;exact rfl;all_goals (intro _; try (exfalso;omega)))|(apply OKx_gtr;exact rfl;exact rfl;all_goals (intro _; try (exfalso;omega)))|(apply OKx_eql;exact rfl;exact rfl;all_goals (intro _; try (exfalso;omega)))|(apply OKx_neq;exact rfl;exact rfl;all_goals (intro _; try (exfalso;omega)))|(apply OKx_idxO;exact rfl;exact rfl;omega)|(apply OKx_idxR;(conv=>lhs;whnf)<;>exact rfl;(with_reducible assumption);exact rfl;omega;intro _ _)|(apply OKx_idxOz;exact rfl;exact rfl;omega;omega)|(apply OKx_idxRz;(conv=>lhs;whnf)<;>exact rfl;(with_reducible assumption);exact rfl;omega;omega;intro _ _)|(apply OKx_fldO;exact rfl;exact rfl)|(apply OKx_fldR;(conv=>lhs;whnf)<;>exact rfl;(with_reducible assumption); decide;intro _ _)|(apply OKx_inc;exact rfl;exact rfl;omega)|(apply OKx_addN;exact rfl;exact rfl;omega)|(apply OKx_add;exact rfl;exact rfl;omega;omega)|(apply OKx_dec;exact rfl;exact rfl;omega;omega)|(apply OKx_subN;exact rfl;exact rfl;omega;omega)|(apply OKx_sub;exact rfl;exact rfl;omega;omega)|(apply OKx_pickT;exact rfl;(conv=>lhs;whnf)<;>exact rfl)|(apply OKx_pickF;exact rfl;(conv=>lhs;whnf)<;>exact rfl)|(apply OKx_guardT;exact rfl;exact rfl)|(apply OKx_guardF;exact rfl;exact rfl)|(apply OKx_guardU;exact rfl;exact rfl)|(apply OKx_extract;exact rfl;(conv=>lhs;whnf)<;>exact rfl)|(apply OKx_boxA;exact rfl;intro _)|(apply OKx_allocA;intro _)|(apply OKx_ldBA;exact rfl;(first | exact at0|exact at1|exact at2|exact at3|exact at4|exact at5|exact at6|exact at7);exact rfl)|(apply OKx_ldRA;(conv=>lhs;whnf)<;>exact rfl;(with_reducible assumption))|(apply OKx_stI;exact rfl;exact rfl;(first | exact at0|exact at1|exact at2|exact at3|exact at4|exact at5|exact at6|exact at7);omega;exact rfl)|(apply OKx_stB;exact rfl;(conv=>lhs;whnf)<;>exact rfl;exact rfl;exact rfl;(first | exact at0|exact at1|exact at2|exact at3|exact at4|exact at5|exact at6|exact at7);exact rfl;exact rfl;exact rfl)|(apply OKx_slit1;(conv=>lhs;whnf)<;>exact rfl;exact rfl;intro _)|(apply OKx_stBA; kernel_rfl;exact rfl;exact rfl;exact rfl;(first | exact at0|exact at1|exact at2|exact at3|exact at4|exact at5|exact at6|exact at7);exact rfl;exact rfl;exact rfl))
        refine bodyQ_r1 (by ((conv=>lhs;whnf)<;>exact rfl)) ?_
        exact ⟨_, Ent.nil, rfl, rfl⟩
      rw [hc] at hc1
      by_cases h9 : t.par.length ≤ 9
      · have h0 : ps.length = 0 := Classical.byContradiction fun h => hf ⟨hg, hc, h9, h⟩
        refine SatL.of 127 [4] Tryz.func3 (by kernel_rfl) (by kernel_rfl) rfl rfl rfl rfl ?_
        repeat' (first|(apply OK_seq)|(apply thenQ_n)|(apply OK_region)|(apply OKx_gc 7;exact rfl; refine OKx_callV (f := 7) rfl rfl rfl (fun w1 hp => hgr w1 hp.below) ?_)|(apply OKx_gc 8;exact rfl; refine OKx_callV (f := 8) rfl rfl rfl (fun w1 hp => hc1 w1 hp.below) ?_)|(apply OKx_gc 9;exact rfl; refine OKx_callV (f := 9) rfl rfl rfl (fun w1 hp => awake38_sat w1) ?_)|(apply OKx_nilK)|(apply OK_block)|(apply blockQ_n)|(apply blockQ_s)|(apply thenQ_e)|(apply blockQ_e;exact rfl)|(apply thenQ_r)|(apply blockQ_r)|(apply OK_condT;exact rfl)|(apply OK_condF;exact rfl)|(apply OK_skip)|(apply OK_exit)|(apply OK_ret)|(apply OKx_move;(conv=>lhs;whnf)<;>exact rfl)|(apply OKx_assign;(conv=>lhs;whnf)<;>exact rfl)|(apply OKx_ldB;exact rfl;(first | exact at0|exact at1|exact at2|exact at3|exact at4|exact at5|exact at6|exact at7);exact rfl)|(apply OKx_ldR;(conv=>lhs;whnf)<;>exact rfl;(with_reducible assumption))|(apply OKx_ldI;exact rfl;(first | exact at0|exact at1|exact at2|exact at3|exact at4|exact at5|exact at6|exact at7);omega)|(apply OKx_len;exact rfl)|(apply OKx_lenR;(conv=>lhs;whnf)<;>exact rfl;(with_reducible assumption))|(apply OKx_lenR2;(conv=>lhs;whnf)<;>exact rfl;(with_reducible assumption))|(apply OKx_lenO;(conv=>lhs;whnf)<;>exact rfl;(first | exact at0|exact at1|exact at2|exact at3|exact at4|exact at5|exact at6|exact at7))|(apply OKx_lss;exact rfl;exact rfl;all_goals (intro _; try (exfalso;omega)))|(apply OKx_gtr;exact rfl;exact rfl;all_goals (intro _; try (exfalso;omega)))|(apply OKx_eql;exact rfl;exact rfl;all_goals (intro _; try (exfalso;omega)))|(apply OKx_neq;exact rfl;exact rfl;all_goals (intro _; try (exfalso;omega)))|(apply OKx_idxO;exact rfl;exact rfl;omega)|(apply OKx_idxR;(conv=>lhs;whnf)<;>exact rfl;(with_reducible assumption);exact rfl;omega;intro _ _)|(apply OKx_idxOz;exact rfl;exact rfl;omega;omega)|(apply OKx_idxRz;(conv=>lhs;whnf)<;>exact rfl;(with_reducible assumption);exact rfl;omega;omega;intro _ _)|(apply OKx_fldO;exact rfl;exact rfl)|(apply OKx_fldR;(conv=>lhs;whnf)<;>exact rfl;(with_reducible assumption); decide;intro _ _)|(apply OKx_inc;exact rfl;exact rfl;omega)|(apply OKx_addN;exact rfl;exact rfl;omega)|(apply OKx_add;exact rfl;exact rfl;omega;omega)|(apply OKx_dec;exact rfl;exact rfl;omega;omega)|(apply OKx_subN;exact rfl;exact rfl;omega;omega)|(apply OKx_sub;exact rfl;exact rfl;omega;omega)|(apply OKx_pickT;exact rfl;(conv=>lhs;whnf)<;>exact rfl)|(apply OKx_pickF;exact rfl;(conv=>lhs;whnf)<;>exact rfl)|(apply OKx_guardT;exact rfl;exact rfl)|(apply OKx_guardF;exact rfl;exact rfl)|(apply OKx_guardU;exact rfl;exact rfl)|(apply OKx_extract;exact rfl;(conv=>lhs;whnf)<;>exact rfl)|(apply OKx_boxA;exact rfl;intro _)|(apply OKx_allocA;intro _)|(apply OKx_ldBA;exact rfl;(first | exact at0|exact at1|exact at2|exact at3|exact at4|exact at5|exact at6|exact at7);exact rfl)|(apply OKx_ldRA;(conv=>lhs;whnf)<;>exact rfl;(with_reducible assumption))|(apply OKx_stI;exact rfl;exact rfl;(first | exact at0|exact at1|exact at2|exact at3|exact at4|exact at5|exact at6|exact at7);omega;exact rfl)|(apply OKx_stB;exact rfl;(conv=>lhs;whnf)<;>exact rfl;exact rfl;exact rfl;(first | exact at0|exact at1|exact at2|exact at3|exact at4|exact at5|exact at6|exact at7);exact rfl;exact rfl;exact rfl)|(apply OKx_slit1;(conv=>lhs;whnf)<;>exact rfl;exact rfl;intro _)|(apply OKx_stBA; kernel_rfl;exact rfl;exact rfl;exact rfl;(first | exact at0|exact at1|exact at2|exact at3|exact at4|exact at5|exact at6|exact at7);exact rfl;exact rfl;exact rfl))
        refine bodyQ_r1 (by ((conv=>lhs;whnf)<;>exact rfl)) ?_
        exact ⟨_, Ent.nil, rfl, rfl⟩
      · refine SatL.of 127 [4] Tryz.func3 (by kernel_rfl) (by kernel_rfl) rfl rfl rfl rfl ?_
        repeat' (first|(apply OK_seq)|(apply thenQ_n)|(apply OK_region)|(apply OKx_gc 7;exact rfl; refine OKx_callV (f := 7) rfl rfl rfl (fun w1 hp => hgr w1 hp.below) ?_)|(apply OKx_gc 8;exact rfl; refine OKx_callV (f := 8) rfl rfl rfl (fun w1 hp => hc1 w1 hp.below) ?_)|(apply OKx_gc 9;exact rfl; refine OKx_callV (f := 9) rfl rfl rfl (fun w1 hp => awake38_sat w1) ?_)|(apply OKx_nilK)|(apply OK_block)|(apply blockQ_n)|(apply blockQ_s)|(apply thenQ_e)|(apply blockQ_e;exact rfl)|(apply thenQ_r)|(apply blockQ_r)|(apply OK_condT;exact rfl)|(apply OK_condF;exact rfl)|(apply OK_skip)|(apply OK_exit)|(apply OK_ret)|(apply OKx_move;(conv=>lhs;whnf)<;>exact rfl)|(apply OKx_assign;(conv=>lhs;whnf)<;>exact rfl)|(apply OKx_ldB;exact rfl;(first | exact at0|exact at1|exact at2|exact at3|exact at4|exact at5|exact at6|exact at7);exact rfl)|(apply OKx_ldR;(conv=>lhs;whnf)<;>exact rfl;(with_reducible assumption))|(apply OKx_ldI;exact rfl;(first | exact at0|exact at1|exact at2|exact at3|exact at4|exact at5|exact at6|exact at7);omega)|(apply OKx_len;exact rfl)|(apply OKx_lenR;(conv=>lhs;whnf)<;>exact rfl;(with_reducible assumption))|(apply OKx_lenR2;(conv=>lhs;whnf)<;>exact rfl;(with_reducible assumption))|(apply OKx_lenO;(conv=>lhs;whnf)<;>exact rfl;(first | exact at0|exact at1|exact at2|exact at3|exact at4|exact at5|exact at6|exact at7))|(apply OKx_lss;exact rfl;exact rfl;all_goals (intro _; try (exfalso;omega)))|(apply OKx_gtr;exact rfl;exact rfl;all_goals (intro _; try (exfalso;omega)))|(apply OKx_eql;exact rfl;exact rfl;all_goals (intro _; try (exfalso;omega)))|(apply OKx_neq;exact rfl;exact rfl;all_goals (intro _; try (exfalso;omega)))|(apply OKx_idxO;exact rfl;exact rfl;omega)|(apply OKx_idxR;(conv=>lhs;whnf)<;>exact rfl;(with_reducible assumption);exact rfl;omega;intro _ _)|(apply OKx_idxOz;exact rfl;exact rfl;omega;omega)|(apply OKx_idxRz;(conv=>lhs;whnf)<;>exact rfl;(with_reducible assumption);exact rfl;omega;omega;intro _ _)|(apply OKx_fldO;exact rfl;exact rfl)|(apply OKx_fldR;(conv=>lhs;whnf)<;>exact rfl;(with_reducible assumption); decide;intro _ _)|(apply OKx_inc;exact rfl;exact rfl;omega)|(apply OKx_addN;exact rfl;exact rfl;omega)|(apply OKx_add;exact rfl;exact rfl;omega;omega)|(apply OKx_dec;exact rfl;exact rfl;omega;omega)|(apply OKx_subN;exact rfl;exact rfl;omega;omega)|(apply OKx_sub;exact rfl;exact rfl;omega;omega)|(apply OKx_pickT;exact rfl;(conv=>lhs;whnf)<;>exact rfl)|(apply OKx_pickF;exact rfl;(conv=>lhs;whnf)<;>exact rfl)|(apply OKx_guardT;exact rfl;exact rfl)|(apply OKx_guardF;exact rfl;exact rfl)|(apply OKx_guardU;exact rfl;exact rfl)|(apply OKx_extract;exact rfl;(conv=>lhs;whnf)<;>exact rfl)|(apply OKx_boxA;exact rfl;intro _)|(apply OKx_allocA;intro _)|(apply OKx_ldBA;exact rfl;(first | exact at0|exact at1|exact at2|exact at3|exact at4|exact at5|exact at6|exact at7);exact rfl)|(apply OKx_ldRA;(conv=>lhs;whnf)<;>exact rfl;(with_reducible assumption))|(apply OKx_stI;exact rfl;exact rfl;(first | exact at0|exact at1|exact at2|exact at3|exact at4|exact at5|exact at6|exact at7);omega;exact rfl)|(apply OKx_stB;exact rfl;(conv=>lhs;whnf)<;>exact rfl;exact rfl;exact rfl;(first | exact at0|exact at1|exact at2|exact at3|exact at4|exact at5|exact at6|exact at7);exact rfl;exact rfl;exact rfl)|(apply OKx_slit1;(conv=>lhs;whnf)<;>exact rfl;exact rfl;intro _)|(apply OKx_stBA; kernel_rfl;exact rfl;exact rfl;exact rfl;(first | exact at0|exact at1|exact at2|exact at3|exact at4|exact at5|exact at6|exact at7);exact rfl;exact rfl;exact rfl))
        all_goals
          refine bodyQ_r1 (by ((conv=>lhs;whnf)<;>exact rfl)) ?_
          exact ⟨_, Ent.nil, rfl, rfl⟩
  obtain ⟨hg, hc, h9, hp0⟩ := hf
  rw [hg] at hgr
  rw [hc] at hc1
  have hl := treC_len hc
  rcases ftE_val t with ⟨h1, _⟩ | ⟨_, hs, hE⟩ | ⟨_, hs, hE⟩
  · exact absurd hc h1
  rotate_left
  · have hft : ∀ w1, Below w.heap.size w w1 → Sat Tryz.prog 10 [.agg #[pv, nv]] w1 (fun u L => u = .tuple #[.agg #[.slice none 0 0, .slice none 0 0, .slice none 0 0], .int .i64 7] ∧ L = []) := fun w1 hb =>
      (FromTree_sat _ t w1 (ht.below hb)).mono fun u L hR => by
        rcases hR with ⟨_, h2, h3⟩ | ⟨h2, _⟩
        · rw [hE] at h2; exact ⟨h2, h3⟩
        · omega
    refine SatL.of 127 [4] Tryz.func3 (by kernel_rfl) (by kernel_rfl) rfl rfl rfl rfl ?_
    repeat' (first|(apply OK_seq)|(apply thenQ_n)|(apply OK_region)|(apply OKx_gc 7;exact rfl; refine OKx_callV (f := 7) rfl rfl rfl (fun w1 hp => hgr w1 hp.below) ?_)|(apply OKx_gc 8;exact rfl; refine OKx_callV (f := 8) rfl rfl rfl (fun w1 hp => hc1 w1 hp.below) ?_)|(apply OKx_gc 9;exact rfl; refine OKx_callV (f := 9) rfl rfl rfl (fun w1 hp => awake38_sat w1) ?_)|(apply OKx_gc 10;exact rfl; refine OKx_call (f := 10) rfl rfl (fun w1 hp => hft w1 hp.below) ?_; rintro _ _ ⟨rfl, rfl⟩; rw [List.nil_append])|(apply OKx_nilK)|(apply OK_block)|(apply blockQ_n)|(apply blockQ_s)|(apply thenQ_e)|(apply blockQ_e;exact rfl)|(apply thenQ_r)|(apply blockQ_r)|(apply OK_condT;exact rfl)|(apply OK_condF;exact rfl)|(apply OK_skip)|(apply OK_exit)|(apply OK_ret)|(apply OKx_move;(conv=>lhs;whnf)<;>exact rfl)|(apply OKx_assign;(conv=>lhs;whnf)<;>exact rfl)|(apply OKx_ldB;exact rfl;(first | exact at0|exact at1|exact at2|exact at3|exact at4|exact at5|exact at6|exact at7);exact rfl)|(apply OKx_ldR;(conv=>lhs;whnf)<;>exact rfl;(with_reducible assumption))|(apply OKx_ldI;exact rfl;(first | exact at0|exact at1|exact at2|exact at3|exact at4|exact at5|exact at6|exact at7);omega)|(apply OKx_len;exact rfl)|(apply OKx_lenR;(conv=>lhs;whnf)<;>exact rfl;(with_reducible assumption))|(apply OKx_lenR2;(conv=>lhs;whnf)<;>exact rfl;(with_reducible assumption))|(apply OKx_lenO;(conv=>lhs;whnf)<;>exact rfl;(first | exact at0|exact at1|exact at2|exact at3|exact at4|exact at5|exact at6|exact at7))|(apply OKx_lss;exact rfl;exact rfl;all_goals (intro _; try (exfalso;omega)))|(apply OKx_gtr;exact rfl;exact rfl;all_goals (intro _; try (exfalso;omega)))|(apply OKx_eql;exact rfl;exact rfl;all_goals (intro _; try (exfalso;omega)))|(apply OKx_neq;exact rfl;exact rfl;all_goals (intro _; try (exfalso;omega)))|(apply OKx_idxO;exact rfl;exact rfl;omega)|(apply OKx_idxR;(conv=>lhs;whnf)<;>exact rfl;(with_reducible assumption);exact rfl;omega;intro _ _)|(apply OKx_idxOz;exact rfl;exact rfl;omega;omega)|(apply OKx_idxRz;(conv=>lhs;whnf)<;>exact rfl;(with_reducible assumption);exact rfl;omega;omega;intro _ _)|(apply OKx_fldO;exact rfl;exact rfl)|(apply OKx_fldR;(conv=>lhs;whnf)<;>exact rfl;(with_reducible assumption); decide;intro _ _)|(apply OKx_inc;exact rfl;exact rfl;omega)|(apply OKx_addN;exact rfl;exact rfl;omega)|(apply OKx_add;exact rfl;exact rfl;omega;omega)|(apply OKx_dec;exact rfl;exact rfl;omega;omega)|(apply OKx_subN;exact rfl;exact rfl;omega;omega)|(apply OKx_sub;exact rfl;exact rfl;omega;omega)|(apply OKx_pickT;exact rfl;(conv=>lhs;whnf)<;>exact rfl)|(apply OKx_pickF;exact rfl;(conv=>lhs;whnf)<;>exact rfl)|(apply OKx_guardT;exact rfl;exact rfl)|(apply OKx_guardF;exact rfl;exact rfl)|(apply OKx_guardU;exact rfl;exact rfl)|(apply OKx_extract;exact rfl;(conv=>lhs;whnf)<;>exact rfl)|(apply OKx_boxA;exact rfl;intro _)|(apply OKx_allocA;intro _)|(apply OKx_ldBA;exact rfl;(first | exact at0|exact at1|exact at2|exact at3|exact at4|exact at5|exact at6|exact at7);exact rfl)|(apply OKx_ldRA;(conv=>lhs;whnf)<;>exact rfl;(with_reducible assumption))|(apply OKx_stI;exact rfl;exact rfl;(first | exact at0|exact at1|exact at2|exact at3|exact at4|exact at5|exact at6|exact at7);omega;exact rfl)|(apply OKx_stB;exact rfl;(conv=>lhs;whnf)<;>exact rfl;exact rfl;exact rfl;(first | exact at0|exact at1|exact at2|exact at3|exact at4|exact at5|exact at6|exact at7);exact rfl;exact rfl;exact rfl)|(apply OKx_slit1;(conv=>lhs;whnf)<;>exact rfl;exact rfl;intro _)|(apply OKx_stBA; kernel_rfl;exact rfl;exact rfl;exact rfl;(first | exact at0|exact at1|exact at2|exact at3|exact at4|exact at5|exact at6|exact at7);exact rfl;exact rfl;exact rfl))
    refine bodyQ_r1 (by ((conv=>lhs;whnf)<;>exact rfl)) ?_
    exact ⟨_, Ent.nil, rfl, rfl⟩
  have hft : ∀ w1, Below w.heap.size w w1 → Sat Tryz.prog 10 [.agg #[pv, nv]] w1 (fun u L => ∃ na nc ea ec pa pc, u = .tuple #[.agg #[.slice na t.par.length nc, .slice ea t.par.length ec, .slice pa t.par.length pc], .int .i64 0] ∧ ∀ w0 w, Hp w0.heap.size w0 w L → Stm w (.agg #[.slice na t.par.length nc, .slice ea t.par.length ec, .slice pa t.par.length pc]) (ftS t)) := fun w1 hb =>
    (FromTree_sat _ t w1 (ht.below hb)).mono fun u L hR => by
      rcases hR with ⟨h2, _⟩ | ⟨_, h3⟩
      · omega
      · exact h3
  have hL3 : ∀ w1, Below w.heap.size w w1 → Sat Tryz.prog 11 [.agg #[pv, nv]] w1 (fun u L => ∃ a n c, n = (lvs t).length ∧ u = .tuple #[.slice a n c, .int .i64 0] ∧ (0 < n → ∃ g, a = some ⟨g, 0, none⟩) ∧ L = [.row 3 1 (.slice a n c) n (ints (lvs t))]) := fun w1 hb =>
    (Leaves_sat _ t w1 (ht.below hb)).mono (by
      rintro u L (⟨h1, _⟩ | ⟨_, a, n, c, h2, h3, h5, h4⟩)
      · exact absurd hc h1
      · exact ⟨a, n, c, h2, h3, h5, h4⟩)
  have hlk : (lvs t).length ≤ t.names.length := lvL_len t t.names.length
  obtain ⟨hsE, hfE, hsN⟩ := tree_score (own := ownL ps (lvs t).length) hE h9 (ownL_len _ _) (ownL_rng hb8 _)
  refine SatL.of 127 [4] Tryz.func3 (by kernel_rfl) (by kernel_rfl) rfl rfl rfl rfl ?_
  repeat' (first|(apply OK_seq)|(apply thenQ_n)|(apply OK_region)|(apply OKx_gc 7;exact rfl; refine OKx_callV (f := 7) rfl rfl rfl (fun w1 hp => hgr w1 hp.below) ?_)|(apply OKx_gc 8;exact rfl; refine OKx_callV (f := 8) rfl rfl rfl (fun w1 hp => hc1 w1 hp.below) ?_)|(apply OKx_gc 9;exact rfl; refine OKx_callV (f := 9) rfl rfl rfl (fun w1 hp => awake38_sat w1) ?_)|(apply OKx_gc 10;exact rfl; refine OKx_call (f := 10) rfl rfl (fun w1 hp => hft w1 hp.below) ?_; rintro _ Z1 ⟨fa1, fa2, fa3, fa4, fa5, fa6, rfl, hZ1⟩; refine OKx_ent (Ent.perm (List.perm_append_comm (l₁ := Z1))) ?_; (try simp only [List.set_cons_zero]); simp only [List.cons_append, List.nil_append])|(apply OKx_gc 11;exact rfl; refine OKx_call (f := 11) rfl rfl (fun w1 hp => hL3 w1 hp.below) ?_; rintro _ _ ⟨la, nl, lc, hnl, rfl, hla, rfl⟩; (try simp only [List.set_cons_zero]); simp only [List.cons_append, List.nil_append])|(apply OKx_gc 12;exact rfl; refine OKx_callV (f := 12) (v := .int .i64 0) rfl rfl rfl (fun w1 hp => by rw [← hs]; exact rstCheck_sat _ (ftS t) w1 (hZ1 w w1 (hp.sub (by repeat (first | exact List.Sublist.refl _ | exact List.sublist_append_right _ _ | exact List.sublist_append_left _ _ | apply List.sublist_append_of_sublist_left | apply List.Sublist.cons))))) ?_)|(apply OKx_gc 13;exact rfl; refine OKx_call (f := 13) rfl rfl (fun w1 hp => rep_sat _ (-1) t.par.length w1 (hp.ints (xs := [-1]) 0 rfl (by omega)) (by omega)) ?_; rintro _ _ ⟨gS, rfl, rfl⟩; simp only [List.cons_append, List.nil_append])|(apply OKx_nilK)|(apply OK_block)|(apply blockQ_n)|(apply blockQ_s)|(apply thenQ_e)|(apply blockQ_e;exact rfl)|(apply thenQ_r)|(apply blockQ_r)|(apply OK_condT;exact rfl)|(apply OK_condF;exact rfl)|(apply OK_skip)|(apply OK_exit)|(apply OK_ret)|(apply OKx_move;(conv=>lhs;whnf)<;>exact rfl)|(apply OKx_assign;(conv=>lhs;whnf)<;>exact rfl)|(apply OKx_ldB;exact rfl;(first | exact at0|exact at1|exact at2|exact at3|exact at4|exact at5|exact at6|exact at7);exact rfl)|(apply OKx_ldR;(conv=>lhs;whnf)<;>exact rfl;(with_reducible assumption))|(apply OKx_ldI;exact rfl;(first | exact at0|exact at1|exact at2|exact at3|exact at4|exact at5|exact at6|exact at7);omega)|(apply OKx_len;exact rfl)|(apply OKx_lenR;(conv=>lhs;whnf)<;>exact rfl;(with_reducible assumption))|(apply OKx_lenR2;(conv=>lhs;whnf)<;>exact rfl;(with_reducible assumption))|(apply OKx_lenO;(conv=>lhs;whnf)<;>exact rfl;(first | exact at0|exact at1|exact at2|exact at3|exact at4|exact at5|exact at6|exact at7))|(apply OKx_lss;exact rfl;exact rfl;all_goals (intro _; try (exfalso;omega)))|(apply OKx_gtr;exact rfl;exact rfl;all_goals (intro _; try (exfalso;omega)))|(apply OKx_eql;exact rfl;exact rfl;all_goals (intro _; try (exfalso;omega)))|(apply OKx_neq;exact rfl;exact rfl;all_goals (intro _; try (exfalso;omega)))|(apply OKx_idxO;exact rfl;exact rfl;omega)|(apply OKx_idxR;(conv=>lhs;whnf)<;>exact rfl;(with_reducible assumption);exact rfl;omega;intro _ _)|(apply OKx_idxOz;exact rfl;exact rfl;omega;omega)|(apply OKx_idxRz;(conv=>lhs;whnf)<;>exact rfl;(with_reducible assumption);exact rfl;omega;omega;intro _ _)|(apply OKx_fldO;exact rfl;exact rfl)|(apply OKx_fldR;(conv=>lhs;whnf)<;>exact rfl;(with_reducible assumption); decide;intro _ _)|(apply OKx_inc;exact rfl;exact rfl;omega)|(apply OKx_addN;exact rfl;exact rfl;omega)|(apply OKx_add;exact rfl;exact rfl;omega;omega)|(apply OKx_dec;exact rfl;exact rfl;omega;omega)|(apply OKx_subN;exact rfl;exact rfl;omega;omega)|(apply OKx_sub;exact rfl;exact rfl;omega;omega)|(apply OKx_pickT;exact rfl;(conv=>lhs;whnf)<;>exact rfl)|(apply OKx_pickF;exact rfl;(conv=>lhs;whnf)<;>exact rfl)|(apply OKx_guardT;exact rfl;exact rfl)|(apply OKx_guardF;exact rfl;exact rfl)|(apply OKx_guardU;exact rfl;exact rfl)|(apply OKx_extract;exact rfl;(conv=>lhs;whnf)<;>exact rfl)|(apply OKx_boxA;exact rfl;intro _)|(apply OKx_allocA;intro _)|(apply OKx_ldBA;exact rfl;(first | exact at0|exact at1|exact at2|exact at3|exact at4|exact at5|exact at6|exact at7);exact rfl)|(apply OKx_ldRA;(conv=>lhs;whnf)<;>exact rfl;(with_reducible assumption))|(apply OKx_stI;exact rfl;exact rfl;(first | exact at0|exact at1|exact at2|exact at3|exact at4|exact at5|exact at6|exact at7);omega;exact rfl)|(apply OKx_stB;exact rfl;(conv=>lhs;whnf)<;>exact rfl;exact rfl;exact rfl;(first | exact at0|exact at1|exact at2|exact at3|exact at4|exact at5|exact at6|exact at7);exact rfl;exact rfl;exact rfl)|(apply OKx_slit1;(conv=>lhs;whnf)<;>exact rfl;exact rfl;intro _)|(apply OKx_stBA; kernel_rfl;exact rfl;exact rfl;exact rfl;(first | exact at0|exact at1|exact at2|exact at3|exact at4|exact at5|exact at6|exact at7);exact rfl;exact rfl;exact rfl))
  rename_i gT _ _ _ gs _ _ _ _ gb
  refine OK_loop2 10 77 [10, 11, 12, 13, 77, 78, 79, 80, 81, 82, 83, 84, 85, 86, 87, 88, 89, 90, 91, 92, 93, 94, 95, 96, 97, 98, 99, 100] (fun m u x L => ∃ (k : Nat) (oa : Option Addr) (oc : Nat), k + m = nl ∧ u = .slice oa k oc ∧ x = .int .i64 (k : Int) ∧
    L = .row 3 1 (.slice oa k oc) k (ints (ownL ps k)) :: .row 3 1 (.slice (some ⟨gS, 0, none⟩) t.par.length t.par.length) t.par.length (ints (stK t ps k)) :: .row 3 1 (.slice la nl lc) nl (ints (lvs t)) :: .box 34 gs [.slice fa1 t.par.length fa2, .slice fa3 t.par.length fa4, .slice fa5 t.par.length fa6] :: .box 25 gT [pv, nv] :: Z1) nl _
    ((Ent.pickT [_, _, _, _, _] Z1 [0, 2, 3, 4] rfl).trans (Ent.mk fun w1 hp => hp.nil 3 1)) ⟨0, none, 0, by omega, rfl, rfl, by rw [stK_zero]; rfl⟩ ?_
  rintro m u x L G ⟨k, oa, oc, hm, rfl, rfl, rfl⟩
  by_cases hk : k < nl
  · obtain ⟨gl, rfl⟩ := hla (by omega)
    obtain ⟨q2, hq2, hq3⟩ := lvs_rng t k (by omega)
    have hmod := Nat.mod_lt k (y := ps.length) (by omega)
    have hps := hb8 _ (getD_mem ps (k % ps.length) 0 hmod)
    obtain ⟨q, hq⟩ : ∃ q : Nat, ps.getD (k % ps.length) 0 = (q : Int) := ⟨(ps.getD (k % ps.length) 0).toNat, by omega⟩
    have hpk : pkI ps k = ((q % 4 : Nat) : Int) - 1 := by unfold pkI; rw [hq];omega
    have hst := stK_step t ps k q2 (by omega) hq2
    have hso := ownL_step ps k
    have hsl := stK_len t ps k
    have hm4 := Nat.mod_lt q (y := 4) (by omega)
    repeat' (first|(apply OK_seq)|(apply thenQ_n)|(apply OK_region)|(apply OKx_gl; refine OKx_ldI 2 rfl rfl (by omega) ?_; rw [hq2])|(apply OKx_gn; refine OKx_remN (b := ps.length) rfl rfl (by omega) (by omega) ?_)|(apply OKx_gv; refine OKx_conv rfl (by kernel_rfl) Tryz.underlying3 (by omega) (by omega) ?_; rw [hq])|(apply OKx_gn; refine OKx_remN (b := 4) rfl rfl (by omega) (by omega) ?_)|(apply OKx_gn; refine OKx_sub rfl rfl (by omega) (by omega) ?_; rw [← hpk])|(apply OKx_gb; refine OKx_appI 1 0 rfl rfl rfl rfl (by omega) (by omega) ?_; intro g5 c5)|(apply OKx_nilK)|(apply OK_block)|(apply blockQ_n)|(apply blockQ_s)|(apply thenQ_e)|(apply blockQ_e;exact rfl)|(apply thenQ_r)|(apply blockQ_r)|(apply OK_condT;exact rfl)|(apply OK_condF;exact rfl)|(apply OK_skip)|(apply OK_exit)|(apply OK_ret)|(apply OKx_move;(conv=>lhs;whnf)<;>exact rfl)|(apply OKx_assign;(conv=>lhs;whnf)<;>exact rfl)|(apply OKx_ldB;exact rfl;(first | exact at0|exact at1|exact at2|exact at3|exact at4|exact at5|exact at6|exact at7);exact rfl)|(apply OKx_ldR;(conv=>lhs;whnf)<;>exact rfl;(with_reducible assumption))|(apply OKx_ldI;exact rfl;(first | exact at0|exact at1|exact at2|exact at3|exact at4|exact at5|exact at6|exact at7);omega)|(apply OKx_len;exact rfl)|(apply OKx_lenR;(conv=>lhs;whnf)<;>exact rfl;(with_reducible assumption))|(apply OKx_lenR2;(conv=>lhs;whnf)<;>exact rfl;(with_reducible assumption))|(apply OKx_lenO;(conv=>lhs;whnf)<;>exact rfl;(first | exact at0|exact at1|exact at2|exact at3|exact at4|exact at5|exact at6|exact at7))|(apply OKx_lss;exact rfl;exact rfl;all_goals (intro _; try (exfalso;omega)))|(apply OKx_gtr;exact rfl;exact rfl;all_goals (intro _; try (exfalso;omega)))|(apply OKx_eql;exact rfl;exact rfl;all_goals (intro _; try (exfalso;omega)))|(apply OKx_neq;exact rfl;exact rfl;all_goals (intro _; try (exfalso;omega)))|(apply OKx_idxO;exact rfl;exact rfl;omega)|(apply OKx_idxR;(conv=>lhs;whnf)<;>exact rfl;(with_reducible assumption);exact rfl;omega;intro _ _)|(apply OKx_idxOz;exact rfl;exact rfl;omega;omega)|(apply OKx_idxRz;(conv=>lhs;whnf)<;>exact rfl;(with_reducible assumption);exact rfl;omega;omega;intro _ _)|(apply OKx_fldO;exact rfl;exact rfl)|(apply OKx_fldR;(conv=>lhs;whnf)<;>exact rfl;(with_reducible assumption); decide;intro _ _)|(apply OKx_inc;exact rfl;exact rfl;omega)|(apply OKx_addN;exact rfl;exact rfl;omega)|(apply OKx_add;exact rfl;exact rfl;omega;omega)|(apply OKx_dec;exact rfl;exact rfl;omega;omega)|(apply OKx_subN;exact rfl;exact rfl;omega;omega)|(apply OKx_sub;exact rfl;exact rfl;omega;omega)|(apply OKx_pickT;exact rfl;(conv=>lhs;whnf)<;>exact rfl)|(apply OKx_pickF;exact rfl;(conv=>lhs;whnf)<;>exact rfl)|(apply OKx_guardT;exact rfl;exact rfl)|(apply OKx_guardF;exact rfl;exact rfl)|(apply OKx_guardU;exact rfl;exact rfl)|(apply OKx_extract;exact rfl;(conv=>lhs;whnf)<;>exact rfl)|(apply OKx_boxA;exact rfl;intro _)|(apply OKx_allocA;intro _)|(apply OKx_ldBA;exact rfl;(first | exact at0|exact at1|exact at2|exact at3|exact at4|exact at5|exact at6|exact at7);exact rfl)|(apply OKx_ldRA;(conv=>lhs;whnf)<;>exact rfl;(with_reducible assumption))|(apply OKx_stI;exact rfl;exact rfl;(first | exact at0|exact at1|exact at2|exact at3|exact at4|exact at5|exact at6|exact at7);omega;exact rfl)|(apply OKx_stB;exact rfl;(conv=>lhs;whnf)<;>exact rfl;exact rfl;exact rfl;(first | exact at0|exact at1|exact at2|exact at3|exact at4|exact at5|exact at6|exact at7);exact rfl;exact rfl;exact rfl)|(apply OKx_slit1;(conv=>lhs;whnf)<;>exact rfl;exact rfl;intro _)|(apply OKx_stBA; kernel_rfl;exact rfl;exact rfl;exact rfl;(first | exact at0|exact at1|exact at2|exact at3|exact at4|exact at5|exact at6|exact at7);exact rfl;exact rfl;exact rfl))
    refine ⟨by (repeat' (first | refine agree_upd rfl ?_ | exact agree_over | exact agree_refl _ _ | refine agree_over2 rfl ?_)), m - 1, _, by omega, Ent.sub (List.sublist_cons_self _ _), ?_⟩
    exact ⟨k + 1, some ⟨g5, 0, none⟩, c5, by omega, rfl, rfl, by rw [hso, ← hst]; rfl⟩
  obtain rfl : k = nl := by omega
  have hse := stK_end t ps
  rw [← hnl] at hse hsE hfE hsN
  have hsc : ∀ w1, (Stm w1 (.agg #[.slice fa1 t.par.length fa2, .slice fa3 t.par.length fa4, .slice fa5 t.par.length fa6]) (ftS t)) → ∀ sv, Ints w1 sv (stK t ps k) → SatV Tryz.prog 14 [.agg #[.slice fa1 t.par.length fa2, .slice fa3 t.par.length fa4, .slice fa5 t.par.length fa6], sv] w1 (.tuple #[.int .i64 (fitX t (ownL ps k)), .int .i64 0]) := fun w1 hs1 sv hs2 => by
    rw [hse] at hs2
    have := Score_sat _ sv (ftS t) _ w1 hs1 hs2
    rwa [hsE, hsN] at this
  have hfi : ∀ w1, Below w.heap.size w w1 → ∀ sv, Ints w1 sv (ownL ps k) → SatV Tryz.prog 15 [.agg #[pv, nv], sv] w1 (.tuple #[.int .i64 (fitX t (ownL ps k)), .int .i64 0]) := fun w1 hb sv hs2 => by
    have := Fitch_sat _ sv t _ w1 (ht.below hb) hs2
    rw [hfE] at this
    exact this
  repeat' (first|(apply OK_seq)|(apply thenQ_n)|(apply OK_region)|(apply OKx_gc 14;exact rfl; refine OKx_callV (f := 14) rfl rfl rfl (fun w1 hp => hsc w1 (hZ1 w w1 (hp.sub (by repeat (first | exact List.Sublist.refl _ | exact List.sublist_append_right _ _ | exact List.sublist_append_left _ _ | apply List.sublist_append_of_sublist_left | apply List.Sublist.cons)))) _ (hp.ints 1 rfl (by omega))) ?_)|(apply OKx_gc 15;exact rfl; refine OKx_callV (f := 15) rfl rfl rfl (fun w1 hp => hfi w1 hp.below _ (hp.ints 0 rfl (by omega))) ?_)|(apply OKx_gc 9;exact rfl; refine OKx_callV (f := 9) rfl rfl rfl (fun w1 hp => awake38_sat w1) ?_)|(apply OKx_nilK)|(apply OK_block)|(apply blockQ_n)|(apply blockQ_s)|(apply thenQ_e)|(apply blockQ_e;exact rfl)|(apply thenQ_r)|(apply blockQ_r)|(apply OK_condT;exact rfl)|(apply OK_condF;exact rfl)|(apply OK_skip)|(apply OK_exit)|(apply OK_ret)|(apply OKx_move;(conv=>lhs;whnf)<;>exact rfl)|(apply OKx_assign;(conv=>lhs;whnf)<;>exact rfl)|(apply OKx_ldB;exact rfl;(first | exact at0|exact at1|exact at2|exact at3|exact at4|exact at5|exact at6|exact at7);exact rfl)|(apply OKx_ldR;(conv=>lhs;whnf)<;>exact rfl;(with_reducible assumption))|(apply OKx_ldI;exact rfl;(first | exact at0|exact at1|exact at2|exact at3|exact at4|exact at5|exact at6|exact at7);omega)|(apply OKx_len;exact rfl)|(apply OKx_lenR;(conv=>lhs;whnf)<;>exact rfl;(with_reducible assumption))|(apply OKx_lenR2;(conv=>lhs;whnf)<;>exact rfl;(with_reducible assumption))|(apply OKx_lenO;(conv=>lhs;whnf)<;>exact rfl;(first | exact at0|exact at1|exact at2|exact at3|exact at4|exact at5|exact at6|exact at7))|(apply OKx_lss;exact rfl;exact rfl;all_goals (intro _; try (exfalso;omega)))|(apply OKx_gtr;exact rfl;exact rfl;all_goals (intro _; try (exfalso;omega)))|(apply OKx_eql;exact rfl;exact rfl;all_goals (intro _; try (exfalso;omega)))|(apply OKx_neq;exact rfl;exact rfl;all_goals (intro _; try (exfalso;omega)))|(apply OKx_idxO;exact rfl;exact rfl;omega)|(apply OKx_idxR;(conv=>lhs;whnf)<;>exact rfl;(with_reducible assumption);exact rfl;omega;intro _ _)|(apply OKx_idxOz;exact rfl;exact rfl;omega;omega)|(apply OKx_idxRz;(conv=>lhs;whnf)<;>exact rfl;(with_reducible assumption);exact rfl;omega;omega;intro _ _)|(apply OKx_fldO;exact rfl;exact rfl)|(apply OKx_fldR;(conv=>lhs;whnf)<;>exact rfl;(with_reducible assumption); decide;intro _ _)|(apply OKx_inc;exact rfl;exact rfl;omega)|(apply OKx_addN;exact rfl;exact rfl;omega)|(apply OKx_add;exact rfl;exact rfl;omega;omega)|(apply OKx_dec;exact rfl;exact rfl;omega;omega)|(apply OKx_subN;exact rfl;exact rfl;omega;omega)|(apply OKx_sub;exact rfl;exact rfl;omega;omega)|(apply OKx_pickT;exact rfl;(conv=>lhs;whnf)<;>exact rfl)|(apply OKx_pickF;exact rfl;(conv=>lhs;whnf)<;>exact rfl)|(apply OKx_guardT;exact rfl;exact rfl)|(apply OKx_guardF;exact rfl;exact rfl)|(apply OKx_guardU;exact rfl;exact rfl)|(apply OKx_extract;exact rfl;(conv=>lhs;whnf)<;>exact rfl)|(apply OKx_boxA;exact rfl;intro _)|(apply OKx_allocA;intro _)|(apply OKx_ldBA;exact rfl;(first | exact at0|exact at1|exact at2|exact at3|exact at4|exact at5|exact at6|exact at7);exact rfl)|(apply OKx_ldRA;(conv=>lhs;whnf)<;>exact rfl;(with_reducible assumption))|(apply OKx_stI;exact rfl;exact rfl;(first | exact at0|exact at1|exact at2|exact at3|exact at4|exact at5|exact at6|exact at7);omega;exact rfl)|(apply OKx_stB;exact rfl;(conv=>lhs;whnf)<;>exact rfl;exact rfl;exact rfl;(first | exact at0|exact at1|exact at2|exact at3|exact at4|exact at5|exact at6|exact at7);exact rfl;exact rfl;exact rfl)|(apply OKx_slit1;(conv=>lhs;whnf)<;>exact rfl;exact rfl;intro _)|(apply OKx_stBA; kernel_rfl;exact rfl;exact rfl;exact rfl;(first | exact at0|exact at1|exact at2|exact at3|exact at4|exact at5|exact at6|exact at7);exact rfl;exact rfl;exact rfl))
  all_goals
    refine bodyQ_r1 (by ((conv=>lhs;whnf)<;>exact rfl)) ?_
    exact ⟨_, Ent.nil, rfl, rfl⟩
end Go.Proofs.YtdigdmnnjbndlaaGreatDoor
namespace Go.Proofs.YtdigdmnnjbndlaaGreatDoor
open Go.RowKit Go.Deep Go.WideShapes Go.ChangeShapes
section
variable {H : Type} {enc : TypeId × Value → H} {W : World}
theorem Tri.open {v : Value} {d : DataW H} {ps : List MemPlace} (ho : ∃ cs, v = .agg cs ∧ cs.size = Tryz.prog.cellsOf 25) (h : DataW.Trod enc Tryz.prog W 0 (fun _ => true) true 25 v d ps) (hw : Light 25 d) :
    ∃ t, Tri W v t := by
  obtain ⟨⟨cl⟩, rfl, hsz⟩ := ho
  have hC : Tryz.prog.cellsOf 25 = 2 := by kernel_rfl
  rw [hC] at hsz
  obtain ⟨fuel, h⟩ := h
  match cl, hsz with
  | [pv, nv], _ =>
    obtain ⟨y0, y1, n, e, _, h0, h1⟩ := trod_struct2 Tryz.underlying25 h
    simp only [Prod.mk.injEq] at e
    obtain ⟨rfl, rfl⟩ := e
    have c1 : Tryz.prog.cellsOf 22 = 1 := by kernel_rfl
    have c2 : Tryz.prog.cellsOf 23 = 1 := by kernel_rfl
    obtain ⟨xs, hx, _⟩ := Ints.open (v := pv) (by simpa [Value.cells, c1] using h0) (light_agg Tryz.underlying25 hw 0 rfl rfl)
    obtain ⟨ys, hy⟩ := Strs.open (v := nv) (by simpa [Value.cells, c2] using h1) (light_agg Tryz.underlying25 hw 1 rfl rfl)
    exact ⟨⟨xs, ys⟩, pv, nv, rfl, hx, hy⟩
end
end Go.Proofs.YtdigdmnnjbndlaaGreatDoor
namespace Go.Proofs.YtdigdmnnjbndlaaGreatDoor
theorem changeAndS {H : Type} {enc : TypeId × Value → H} {a : Assume} {C : Checked} {os : Os} {f : FuncId} {fn : Func} {s : ChangeSpec} {conds : List PathCond} {apart fresh handsOn again : Bool} {X : World → Array Value → Prop}
    (hX : ∀ (w w' : World) (args : Array Value), w.heap = w'.heap → X w args → X w' args)
    (own : ownKnob C.prog.godebug = none) (started : os.Started) (noInit : C.prog.inits.idxOf? f = none) (hfn : C.prog.funcs[f]? = some fn)
    (witness : ∃ (w : World) (tape : Tape) (i : Input), w.os = os ∧ (w.forCall tape i).Shaped C.prog ∧ i.vars = [] ∧ Input.okWide C.prog (w.forCall tape i) .any w.heap.size f i ∧
      ((s.pre enc C.prog fn conds apart (w.forCall tape i).memory i.args ∧ X (w.forCall tape i).memory i.args) ∧ sizedMet enc C.prog fn (OpenSpec.ofChange s) apart (w.forCall tape i).memory i.args) ∧ a.holds C.prog (lone (Frame.enter C.prog f i.args .normal) [] (w.forCall tape i)))
    (contract : ∀ (W : World) (base : Nat) (args : Array Value) (ds gs : List (DataW H)) (before : List MemPlace),
      (∀ (j : Nat) t v, fn.params[j]? = some t → args[j]? = some v → Value.okWide C.prog W .any base t v) →
      DataW.Whole enc C.prog fn.params.toList s.vars apart W args.toList ds gs before →
      conds.all (PathCond.test C.prog ⟨fn.params.toList, ds, s.plain.varTypes C.prog, gs⟩) = true →
      (DataW.weightsEach C.prog (fn.params.toList ++ s.plain.varTypes C.prog) (ds ++ gs)).all (· ≤ reachBytes) = true → X W args → W.ShapedOpen C.prog →
      a.holds C.prog (lone (Frame.enter C.prog f args .normal) [] W) →
      Calls C.prog f args W fun e W' => ∃ v, e = .returned v ∧ s.post enc C.prog fn apart fresh handsOn again W args v W') :
    ReturnsInHanded a C os f .any (fun w args => (s.pre enc C.prog fn conds apart w args ∧ X w args) ∧ sizedMet enc C.prog fn (OpenSpec.ofChange s) apart w args) (s.post enc C.prog fn apart fresh handsOn again) := by
  refine returnsInHanded_of_calls own started noInit witness ?_
  intro w tape i _ hsh _ hok hpre hholds
  obtain ⟨_, _, _, fn', hfn', _, _, _, _, hval⟩ := hok
  have e : fn' = fn := Option.some.inj (hfn'.symm.trans hfn)
  subst e
  obtain ⟨⟨⟨ds, gs, before, hw, hc⟩, hx⟩, hz⟩ := hpre
  have hw' := DataW.Whole.of_heap (w' := w.forCall tape i) (by rfl) hw
  refine (contract (w.forCall tape i) w.heap.size i.args ds gs before hval hw' hc (hz.weights hw) (hX _ _ _ (by rfl) hx) hsh hholds).mono fun e W' ⟨v, he, hp⟩ => ?_
  subst he
  exact ChangeSpec.post_blind hp
end Go.Proofs.YtdigdmnnjbndlaaGreatDoor
