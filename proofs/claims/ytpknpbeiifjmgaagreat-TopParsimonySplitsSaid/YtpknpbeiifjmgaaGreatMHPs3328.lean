/-
  Part 28 of the proof: Os33. No statement of the seat is proved here.
-/
import Derived.Test.YtpknpbeiifjmgaaGreatMHPs3327
namespace Go.Proofs.YtpknpbeiifjmgaaGreat
open Go.RowKit Go.Maps
def cntL (st : List Int) : Nat → List (Int × Int)
  | 0 => []
  | k + 1 => updI (cntL st k) (st.getD k 0) (getI (cntL st k) (st.getD k 0) + 1)
theorem updI_keys (ps : List (Int × Int)) (q v : Int) : (updI ps q v).map (·.1) = if q ∈ ps.map (·.1) then ps.map (·.1) else ps.map (·.1) ++ [q] := by
  induction ps with
  | nil => rfl
  | cons p ps ih =>
    unfold updI
    by_cases h : q = p.1
    · rw [if_pos h, if_pos (by simp [h])]
      simp [h]
    · rw [if_neg h, List.map_cons, ih]
      by_cases h2 : q ∈ ps.map (·.1)
      · rw [if_pos h2, if_pos (by simp only [List.map_cons, List.mem_cons]; exact .inr h2)]
        rfl
      · rw [if_neg h2, if_neg (by simp only [List.map_cons, List.mem_cons, not_or]; exact ⟨h, h2⟩)]
        rfl
theorem updI_vals {ps : List (Int × Int)} {q v b : Int} (h : ∀ p ∈ ps, 0 ≤ p.2 ∧ p.2 ≤ b) (hv : 0 ≤ v ∧ v ≤ b) : ∀ p ∈ updI ps q v, 0 ≤ p.2 ∧ p.2 ≤ b := by
  induction ps with
  | nil => intro p hp; rw [updI, List.mem_singleton] at hp; rw [hp]; exact hv
  | cons p ps ih =>
    intro p' hp
    unfold updI at hp
    split at hp
    · rcases List.mem_cons.1 hp with rfl | hp
      · exact hv
      · exact h p' (List.mem_cons_of_mem _ hp)
    · rcases List.mem_cons.1 hp with rfl | hp
      · exact h _ List.mem_cons_self
      · exact ih (fun p hp => h p (List.mem_cons_of_mem _ hp)) p' hp
theorem getI_rng {ps : List (Int × Int)} {q b : Int} (h : ∀ p ∈ ps, 0 ≤ p.2 ∧ p.2 ≤ b) (hb : 0 ≤ b) : 0 ≤ getI ps q ∧ getI ps q ≤ b := by
  unfold getI
  cases hf : ps.find? (fun p => decide (q = p.1)) with
  | none => exact ⟨Int.le_refl 0, hb⟩
  | some p => exact h p (List.mem_of_find?_eq_some hf)
theorem cntL_rng (st : List Int) : ∀ k, ∀ p ∈ cntL st k, 0 ≤ p.2 ∧ p.2 ≤ (k : Int)
  | 0 => fun p hp => absurd hp List.not_mem_nil
  | k + 1 => by
    have ih := cntL_rng st k
    have hg := getI_rng (q := st.getD k 0) ih (by omega)
    exact updI_vals (fun p hp => by have := ih p hp;omega) (by omega)
theorem cntL_keys (st : List Int) : ∀ k, ((cntL st k).map (·.1)).Nodup ∧ ∀ x, x ∈ (cntL st k).map (·.1) ↔ ∃ j, j < k ∧ st.getD j 0 = x
  | 0 => ⟨by simp [cntL], fun x => by simp [cntL]⟩
  | k + 1 => by
    obtain ⟨h1, h2⟩ := cntL_keys st k
    rw [cntL, updI_keys]
    by_cases h : st.getD k 0 ∈ (cntL st k).map (·.1)
    · rw [if_pos h]
      refine ⟨h1, fun x => ?_⟩
      rw [h2]
      constructor
      · rintro ⟨j, hj, e⟩; exact ⟨j, by omega, e⟩
      · rintro ⟨j, hj, e⟩
        by_cases hjk : j < k
        · exact ⟨j, hjk, e⟩
        · obtain rfl : j = k := by omega
          rw [← e]
          exact (h2 _).1 h
    · rw [if_neg h]
      refine ⟨?_, fun x => ?_⟩
      · rw [List.nodup_append]
        refine ⟨h1, by simp, fun a ha b hb e => ?_⟩
        rw [List.mem_singleton] at hb
        subst e hb
        exact h ha
      · rw [List.mem_append, h2, List.mem_singleton]
        constructor
        · rintro (⟨j, hj, e⟩ | rfl)
          · exact ⟨j, by omega, e⟩
          · exact ⟨k, by omega, rfl⟩
        · rintro ⟨j, hj, e⟩
          by_cases hjk : j < k
          · exact .inl ⟨j, hjk, e⟩
          · obtain rfl : j = k := by omega
            exact .inr e.symm
theorem nodup_two {l : List Int} {a b : Int} (h : l.Nodup) (hab : a ≠ b) (hm : ∀ x, x ∈ l ↔ x = a ∨ x = b) : l.length = 2 := by
  have h1 : [a, b].Nodup := by simp [hab]
  have hp : l.Perm [a, b] := by
    rw [List.perm_ext_iff_of_nodup h h1]
    intro x
    rw [hm x]
    simp
  rw [hp.length_eq]
  rfl
theorem cntL_two {st : List Int} (hpos : ∀ x ∈ st, 0 ≤ x ∧ x < 16) (h2 : (srtK st 16).length = 2) : (cntL st st.length).length = 2 := by
  obtain ⟨q0, hq0, hne, htwo⟩ := dif_two hpos h2
  obtain ⟨h1, h3⟩ := cntL_keys st st.length
  have := nodup_two h1 hne (fun x => by
    rw [h3 x]
    constructor
    · rintro ⟨j, hj, rfl⟩; exact htwo j hj
    · rintro (rfl | rfl)
      · exact ⟨0, by omega, rfl⟩
      · exact ⟨q0, hq0, rfl⟩)
  rwa [List.length_map] at this
theorem cntL_none {st : List Int} (hpos : ∀ x ∈ st, 0 ≤ x ∧ x < 16) : getI (cntL st st.length) (-1) = 0 := by
  rcases fndI_get (-1) (cntL st st.length) 0 with ⟨_, h, _⟩ | ⟨j, _, hj, e⟩
  · exact h
  · exfalso
    have hm : (-1 : Int) ∈ (cntL st st.length).map (·.1) := by
      rw [← e, getD_lt _ _ _ hj]
      exact List.mem_map_of_mem (List.getElem_mem hj)
    obtain ⟨i, hi, e2⟩ := ((cntL_keys st st.length).2 (-1)).1 hm
    have := hpos _ (getD_mem st i 0 hi)
    omega
def difI (st : List Int) (k : Nat) : List Int := (difL (fun p => st.getD p 0) k).map fun p : Nat => (p : Int)
theorem difI_step (st : List Int) (k : Nat) : difI st (k + 1) = difI st k ++ if st.getD k 0 ≠ st.getD 0 0 then [(k : Int)] else [] := by
  unfold difI difL
  rw [List.range_succ, List.filter_append, List.map_append]
  congr 1
  by_cases h : st.getD k 0 = st.getD 0 0
  · rw [if_neg (fun h2 => h2 h), List.filter_cons_of_neg (by simpa using h)]
    rfl
  · rw [if_pos h, List.filter_cons_of_pos (by simpa using h)]
    rfl
theorem difI_len (st : List Int) (k : Nat) : (difI st k).length ≤ k := by
  unfold difI difL
  rw [List.length_map]
  have := List.length_filter_le (fun p => decide (st.getD p 0 ≠ st.getD 0 0)) (List.range k)
  rwa [List.length_range] at this
set_option maxRecDepth 100000 in
set_option maxHeartbeats 4000000 in
theorem OfS1_sat (x : Int) (w : World) (h : 0 ≤ x ∧ x < 16) : SatV Tryz.prog 29 [.int .i64 x] w (.bool false) := by
  refine SatL.of 9 [2] Tryz.func29 (by kernel_rfl) (by kernel_rfl) rfl rfl rfl rfl ?_
  repeat' (first|(apply OK_seq)|(apply thenQ_n)|(apply OK_region)|(apply OKx_nilK)|(apply OK_block)|(apply blockQ_n)|(apply blockQ_s)|(apply thenQ_e)|(apply blockQ_e;exact rfl)|(apply thenQ_r)|(apply blockQ_r)|(apply OK_condT;exact rfl)|(apply OK_condF;exact rfl)|(apply OK_skip)|(apply OK_exit)|(apply OK_ret)|(apply OKx_move;(conv=>lhs;whnf)<;>exact rfl)|(apply OKx_assign;(conv=>lhs;whnf)<;>exact rfl)|(apply OKx_lss;exact rfl;exact rfl;all_goals (intro _; try (exfalso;omega)))|(apply OKx_geq;exact rfl;exact rfl;all_goals (intro _; try (exfalso;omega)))|(apply OKx_pickT;exact rfl;(conv=>lhs;whnf)<;>exact rfl)|(apply OKx_pickF;exact rfl;(conv=>lhs;whnf)<;>exact rfl)|(apply OKx_guardT;exact rfl;exact rfl)|(apply OKx_guardF;exact rfl;exact rfl)|(apply OKx_guardU;exact rfl;exact rfl))
  refine bodyQ_r1 (by ((conv=>lhs;whnf)<;>exact rfl)) ?_
  exact ⟨_, Ent.nil, rfl, rfl⟩
def ownB (st : List Int) : Bool := decide (2 ≤ (difI st st.length).length ∧ (difI st st.length).length + 2 ≤ st.length)
def OfSR (st : List Int) (u : Value) (L : List Res) : Prop :=
  (ownB st = false ∧ u = .tuple #[.slice none 0 0, .bool false, .int .i64 0] ∧ L = []) ∨
  (ownB st = true ∧ ∃ a c, u = .tuple #[.slice a (difI st st.length).length c, .bool true, .int .i64 0] ∧ L = [.row 3 1 (.slice a (difI st st.length).length c) (difI st st.length).length (ints (difI st st.length))])
theorem zeroI33 (w : World) : (zeroValue 3).run Tryz.prog w = .ok (.int .i64 0) w := Tryz.zeroValue3 w
set_option maxRecDepth 100000 in
set_option maxHeartbeats 4000000 in
theorem OfStates_sat (v : Value) (st : List Int) (w : World) (h : Ints w v st) (hpos : ∀ x ∈ st, 0 ≤ x ∧ x < 16) (hl : st.length ≤ 32) (h2 : (srtK st 16).length = 2) : Sat Tryz.prog 11 [v] w (OfSR st) := by
  have hsl := h.sl
  have hcf : ∀ w1, Below w.heap.size w w1 → SatV Tryz.prog 28 [v, .func (.func 29) #[] #[]] w1 (.bool false) := fun w1 hb => by
    have := containsF_int_sat v st.length (fun j => .int .i64 (st.getD j 0)) (fun _ => false) 29 #[] w1 (hsl.below hb) (fun k hk w2 hb2 => OfS1_sat _ w2 (hpos _ (getD_mem st k 0 hk)))
    rwa [anyN_false] at this
  have hcn := cntL_none hpos
  have hct := cntL_two hpos h2
  refine SatL.ofR 60 [.tmp 2, .tmp 3, .tmp 4] Tryz.func11 (by kernel_rfl) (by kernel_rfl) rfl rfl rfl ?_
  repeat' (first|(apply OK_seq)|(apply thenQ_n)|(apply OK_region)|(apply OKx_gc 28;exact rfl; refine OKx_callV (f := 28) rfl rfl rfl (fun w1 hp => hcf w1 hp.below) ?_)|(refine OKx_mkMapI ?_; intro gm)|(apply OKx_nilK)|(apply OK_block)|(apply blockQ_n)|(apply blockQ_s)|(apply thenQ_e)|(apply blockQ_e;exact rfl)|(apply thenQ_r)|(apply blockQ_r)|(apply OK_condT;exact rfl)|(apply OK_condF;exact rfl)|(apply OK_skip)|(apply OK_exit)|(apply OK_ret)|(apply OKx_move;(conv=>lhs;whnf)<;>exact rfl)|(apply OKx_assign;(conv=>lhs;whnf)<;>exact rfl)|(apply OKx_ldB;exact rfl;(first | exact at0|exact at1|exact at2|exact at3|exact at4|exact at5|exact at6|exact at7);exact rfl)|(apply OKx_ldR;(conv=>lhs;whnf)<;>exact rfl;(with_reducible assumption))|(apply OKx_ldI;exact rfl;(first | exact at0|exact at1|exact at2|exact at3|exact at4|exact at5|exact at6|exact at7);omega)|(apply OKx_len;exact rfl)|(apply OKx_lenR;(conv=>lhs;whnf)<;>exact rfl;(with_reducible assumption))|(apply OKx_lenR2;(conv=>lhs;whnf)<;>exact rfl;(with_reducible assumption))|(apply OKx_lenO;(conv=>lhs;whnf)<;>exact rfl;(first | exact at0|exact at1|exact at2|exact at3|exact at4|exact at5|exact at6|exact at7))|(apply OKx_lss;exact rfl;exact rfl;all_goals (intro _; try (exfalso;omega)))|(apply OKx_gtr;exact rfl;exact rfl;all_goals (intro _; try (exfalso;omega)))|(apply OKx_neq;exact rfl;exact rfl;all_goals (intro _; try (exfalso;omega)))|(apply OKx_idxO;exact rfl;exact rfl;omega)|(apply OKx_idxR;(conv=>lhs;whnf)<;>exact rfl;(with_reducible assumption);exact rfl;omega;intro _ _)|(apply OKx_idxOz;exact rfl;exact rfl;omega;omega)|(apply OKx_idxRz;(conv=>lhs;whnf)<;>exact rfl;(with_reducible assumption);exact rfl;omega;omega;intro _ _)|(apply OKx_inc;exact rfl;exact rfl;omega)|(apply OKx_addN;exact rfl;exact rfl;omega)|(apply OKx_add;exact rfl;exact rfl;omega;omega)|(apply OKx_dec;exact rfl;exact rfl;omega;omega)|(apply OKx_subN;exact rfl;exact rfl;omega;omega)|(apply OKx_sub;exact rfl;exact rfl;omega;omega)|(apply OKx_pickT;exact rfl;(conv=>lhs;whnf)<;>exact rfl)|(apply OKx_pickF;exact rfl;(conv=>lhs;whnf)<;>exact rfl)|(apply OKx_guardT;exact rfl;exact rfl)|(apply OKx_guardF;exact rfl;exact rfl)|(apply OKx_guardU;exact rfl;exact rfl)|(apply OKx_slit1;(conv=>lhs;whnf)<;>exact rfl;exact rfl;intro _))
  refine OK_loop2 6 19 [6, 7, 8, 19, 20, 21, 22, 23, 24, 25, 26, 27, 28, 29, 30, 31, 32, 33, 34, 35, 36, 37] (fun m u x L => ∃ (k : Nat) (a : Option Addr) (c : Nat), k + m = st.length ∧ u = .slice a (difI st k).length c ∧ x = .int .i64 (k : Int) ∧ L = [.row 3 1 (.slice a (difI st k).length c) (difI st k).length (ints (difI st k)), .obj gm (IMIs (cntL st k))]) st.length _
    (Ent.mk fun w1 hp => hp.nil 3 1) ⟨0, none, 0, by omega, rfl, rfl, rfl⟩ ?_
  rintro m u x L G ⟨k, a, c, hm, rfl, rfl, rfl⟩
  have hdl := difI_len st k
  by_cases hk : k < st.length
  · have hst := difI_step st k
    have hgr := getI_rng (q := st.getD k 0) (cntL_rng st k) (by omega)
    by_cases he : st.getD k 0 = st.getD 0 0
    · have he2 : st.getD k 0 = st.getD (Int.toNat 0) 0 := he
      rw [if_neg (fun h => h he), List.append_nil] at hst
      repeat' (first|(apply OK_seq)|(apply thenQ_n)|(apply OK_region)|(refine OKx_lookI 1 rfl rfl rfl Tryz.underlying61 Tryz.underlying3 zeroI33 ?_)|(refine OKx_setMI 1 rfl rfl rfl rfl Tryz.underlying61 Tryz.underlying3 ?_; simp only [List.set_cons_succ, List.set_cons_zero])|(apply OKx_nilK)|(apply OK_block)|(apply blockQ_n)|(apply blockQ_s)|(apply thenQ_e)|(apply blockQ_e;exact rfl)|(apply thenQ_r)|(apply blockQ_r)|(apply OK_condT;exact rfl)|(apply OK_condF;exact rfl)|(apply OK_skip)|(apply OK_exit)|(apply OK_ret)|(apply OKx_move;(conv=>lhs;whnf)<;>exact rfl)|(apply OKx_assign;(conv=>lhs;whnf)<;>exact rfl)|(apply OKx_ldB;exact rfl;(first | exact at0|exact at1|exact at2|exact at3|exact at4|exact at5|exact at6|exact at7);exact rfl)|(apply OKx_ldR;(conv=>lhs;whnf)<;>exact rfl;(with_reducible assumption))|(apply OKx_ldI;exact rfl;(first | exact at0|exact at1|exact at2|exact at3|exact at4|exact at5|exact at6|exact at7);omega)|(apply OKx_len;exact rfl)|(apply OKx_lenR;(conv=>lhs;whnf)<;>exact rfl;(with_reducible assumption))|(apply OKx_lenR2;(conv=>lhs;whnf)<;>exact rfl;(with_reducible assumption))|(apply OKx_lenO;(conv=>lhs;whnf)<;>exact rfl;(first | exact at0|exact at1|exact at2|exact at3|exact at4|exact at5|exact at6|exact at7))|(apply OKx_lss;exact rfl;exact rfl;all_goals (intro _; try (exfalso;omega)))|(apply OKx_gtr;exact rfl;exact rfl;all_goals (intro _; try (exfalso;omega)))|(apply OKx_neq;exact rfl;exact rfl;all_goals (intro _; try (exfalso;omega)))|(apply OKx_idxO;exact rfl;exact rfl;omega)|(apply OKx_idxR;(conv=>lhs;whnf)<;>exact rfl;(with_reducible assumption);exact rfl;omega;intro _ _)|(apply OKx_idxOz;exact rfl;exact rfl;omega;omega)|(apply OKx_idxRz;(conv=>lhs;whnf)<;>exact rfl;(with_reducible assumption);exact rfl;omega;omega;intro _ _)|(apply OKx_inc;exact rfl;exact rfl;omega)|(apply OKx_addN;exact rfl;exact rfl;omega)|(apply OKx_add;exact rfl;exact rfl;omega;omega)|(apply OKx_dec;exact rfl;exact rfl;omega;omega)|(apply OKx_subN;exact rfl;exact rfl;omega;omega)|(apply OKx_sub;exact rfl;exact rfl;omega;omega)|(apply OKx_pickT;exact rfl;(conv=>lhs;whnf)<;>exact rfl)|(apply OKx_pickF;exact rfl;(conv=>lhs;whnf)<;>exact rfl)|(apply OKx_guardT;exact rfl;exact rfl)|(apply OKx_guardF;exact rfl;exact rfl)|(apply OKx_guardU;exact rfl;exact rfl)|(apply OKx_slit1;(conv=>lhs;whnf)<;>exact rfl;exact rfl;intro _))
      refine ⟨by (repeat' (first | refine agree_upd rfl ?_ | exact agree_over | exact agree_refl _ _ | refine agree_over2 rfl ?_)), m - 1, _, by omega, Ent.refl _ _, ?_⟩
      exact ⟨k + 1, a, c, by omega, by rw [hst]; rfl, rfl, by rw [hst]; rfl⟩
    · have he2 : st.getD k 0 ≠ st.getD (Int.toNat 0) 0 := he
      rw [if_pos he] at hst
      repeat' (first|(apply OK_seq)|(apply thenQ_n)|(apply OK_region)|(refine OKx_lookI 1 rfl rfl rfl Tryz.underlying61 Tryz.underlying3 zeroI33 ?_)|(refine OKx_setMI 1 rfl rfl rfl rfl Tryz.underlying61 Tryz.underlying3 ?_; simp only [List.set_cons_succ, List.set_cons_zero])|(apply OKx_gb; refine OKx_appI 1 0 rfl rfl rfl rfl (by omega) (by omega) ?_; intro gA cA)|(apply OKx_nilK)|(apply OK_block)|(apply blockQ_n)|(apply blockQ_s)|(apply thenQ_e)|(apply blockQ_e;exact rfl)|(apply thenQ_r)|(apply blockQ_r)|(apply OK_condT;exact rfl)|(apply OK_condF;exact rfl)|(apply OK_skip)|(apply OK_exit)|(apply OK_ret)|(apply OKx_move;(conv=>lhs;whnf)<;>exact rfl)|(apply OKx_assign;(conv=>lhs;whnf)<;>exact rfl)|(apply OKx_ldB;exact rfl;(first | exact at0|exact at1|exact at2|exact at3|exact at4|exact at5|exact at6|exact at7);exact rfl)|(apply OKx_ldR;(conv=>lhs;whnf)<;>exact rfl;(with_reducible assumption))|(apply OKx_ldI;exact rfl;(first | exact at0|exact at1|exact at2|exact at3|exact at4|exact at5|exact at6|exact at7);omega)|(apply OKx_len;exact rfl)|(apply OKx_lenR;(conv=>lhs;whnf)<;>exact rfl;(with_reducible assumption))|(apply OKx_lenR2;(conv=>lhs;whnf)<;>exact rfl;(with_reducible assumption))|(apply OKx_lenO;(conv=>lhs;whnf)<;>exact rfl;(first | exact at0|exact at1|exact at2|exact at3|exact at4|exact at5|exact at6|exact at7))|(apply OKx_lss;exact rfl;exact rfl;all_goals (intro _; try (exfalso;omega)))|(apply OKx_gtr;exact rfl;exact rfl;all_goals (intro _; try (exfalso;omega)))|(apply OKx_neq;exact rfl;exact rfl;all_goals (intro _; try (exfalso;omega)))|(apply OKx_idxO;exact rfl;exact rfl;omega)|(apply OKx_idxR;(conv=>lhs;whnf)<;>exact rfl;(with_reducible assumption);exact rfl;omega;intro _ _)|(apply OKx_idxOz;exact rfl;exact rfl;omega;omega)|(apply OKx_idxRz;(conv=>lhs;whnf)<;>exact rfl;(with_reducible assumption);exact rfl;omega;omega;intro _ _)|(apply OKx_inc;exact rfl;exact rfl;omega)|(apply OKx_addN;exact rfl;exact rfl;omega)|(apply OKx_add;exact rfl;exact rfl;omega;omega)|(apply OKx_dec;exact rfl;exact rfl;omega;omega)|(apply OKx_subN;exact rfl;exact rfl;omega;omega)|(apply OKx_sub;exact rfl;exact rfl;omega;omega)|(apply OKx_pickT;exact rfl;(conv=>lhs;whnf)<;>exact rfl)|(apply OKx_pickF;exact rfl;(conv=>lhs;whnf)<;>exact rfl)|(apply OKx_guardT;exact rfl;exact rfl)|(apply OKx_guardF;exact rfl;exact rfl)|(apply OKx_guardU;exact rfl;exact rfl)|(apply OKx_slit1;(conv=>lhs;whnf)<;>exact rfl;exact rfl;intro _))
      refine ⟨by (repeat' (first | refine agree_upd rfl ?_ | exact agree_over | exact agree_refl _ _ | refine agree_over2 rfl ?_)), m - 1, _, by omega, Ent.sub (List.sublist_cons_self _ _), ?_⟩
      exact ⟨k + 1, some ⟨gA, 0, none⟩, cA, by omega, by rw [hst, List.length_append]; rfl, rfl, by rw [hst, List.length_append]; rfl⟩
  obtain rfl : k = st.length := by omega
  repeat' (first|(apply OK_seq)|(apply thenQ_n)|(apply OK_region)|(refine OKx_lookI 1 rfl rfl rfl Tryz.underlying61 Tryz.underlying3 zeroI33 ?_; rw [hcn])|(apply OKx_gb; refine OKx_lenM 1 rfl rfl Tryz.underlying61 ?_; rw [hct])|(apply OKx_nilK)|(apply OK_block)|(apply blockQ_n)|(apply blockQ_s)|(apply thenQ_e)|(apply blockQ_e;exact rfl)|(apply thenQ_r)|(apply blockQ_r)|(apply OK_condT;exact rfl)|(apply OK_condF;exact rfl)|(apply OK_skip)|(apply OK_exit)|(apply OK_ret)|(apply OKx_move;(conv=>lhs;whnf)<;>exact rfl)|(apply OKx_assign;(conv=>lhs;whnf)<;>exact rfl)|(apply OKx_ldB;exact rfl;(first | exact at0|exact at1|exact at2|exact at3|exact at4|exact at5|exact at6|exact at7);exact rfl)|(apply OKx_ldR;(conv=>lhs;whnf)<;>exact rfl;(with_reducible assumption))|(apply OKx_ldI;exact rfl;(first | exact at0|exact at1|exact at2|exact at3|exact at4|exact at5|exact at6|exact at7);omega)|(apply OKx_len;exact rfl)|(apply OKx_lenR;(conv=>lhs;whnf)<;>exact rfl;(with_reducible assumption))|(apply OKx_lenR2;(conv=>lhs;whnf)<;>exact rfl;(with_reducible assumption))|(apply OKx_lenO;(conv=>lhs;whnf)<;>exact rfl;(first | exact at0|exact at1|exact at2|exact at3|exact at4|exact at5|exact at6|exact at7))|(apply OKx_lss;exact rfl;exact rfl;all_goals (intro _; try (exfalso;omega)))|(apply OKx_gtr;exact rfl;exact rfl;all_goals (intro _; try (exfalso;omega)))|(apply OKx_neq;exact rfl;exact rfl;all_goals (intro _; try (exfalso;omega)))|(apply OKx_idxO;exact rfl;exact rfl;omega)|(apply OKx_idxR;(conv=>lhs;whnf)<;>exact rfl;(with_reducible assumption);exact rfl;omega;intro _ _)|(apply OKx_idxOz;exact rfl;exact rfl;omega;omega)|(apply OKx_idxRz;(conv=>lhs;whnf)<;>exact rfl;(with_reducible assumption);exact rfl;omega;omega;intro _ _)|(apply OKx_inc;exact rfl;exact rfl;omega)|(apply OKx_addN;exact rfl;exact rfl;omega)|(apply OKx_add;exact rfl;exact rfl;omega;omega)|(apply OKx_dec;exact rfl;exact rfl;omega;omega)|(apply OKx_subN;exact rfl;exact rfl;omega;omega)|(apply OKx_sub;exact rfl;exact rfl;omega;omega)|(apply OKx_pickT;exact rfl;(conv=>lhs;whnf)<;>exact rfl)|(apply OKx_pickF;exact rfl;(conv=>lhs;whnf)<;>exact rfl)|(apply OKx_guardT;exact rfl;exact rfl)|(apply OKx_guardF;exact rfl;exact rfl)|(apply OKx_guardU;exact rfl;exact rfl)|(apply OKx_slit1;(conv=>lhs;whnf)<;>exact rfl;exact rfl;intro _))
  all_goals
    refine bodyR_r3 (by first | exact resIs_tmp (by ((conv=>lhs;whnf)<;>exact rfl)) | exact resIs_cellA 0 rfl rfl rfl | exact resIs_cellA 1 rfl rfl rfl | exact resIs_cellA 2 rfl rfl rfl | exact resIs_cellA 3 rfl rfl rfl | exact resIs_cellA 4 rfl rfl rfl | exact resIs_cellA 5 rfl rfl rfl | exact resIs_cellA 6 rfl rfl rfl | exact resIs_cellA 7 rfl rfl rfl | exact resIs_cellA 8 rfl rfl rfl | exact resIs_cellA 9 rfl rfl rfl) (by first | exact resIs_tmp (by ((conv=>lhs;whnf)<;>exact rfl)) | exact resIs_cellA 0 rfl rfl rfl | exact resIs_cellA 1 rfl rfl rfl | exact resIs_cellA 2 rfl rfl rfl | exact resIs_cellA 3 rfl rfl rfl | exact resIs_cellA 4 rfl rfl rfl | exact resIs_cellA 5 rfl rfl rfl | exact resIs_cellA 6 rfl rfl rfl | exact resIs_cellA 7 rfl rfl rfl | exact resIs_cellA 8 rfl rfl rfl | exact resIs_cellA 9 rfl rfl rfl) (by first | exact resIs_tmp (by ((conv=>lhs;whnf)<;>exact rfl)) | exact resIs_cellA 0 rfl rfl rfl | exact resIs_cellA 1 rfl rfl rfl | exact resIs_cellA 2 rfl rfl rfl | exact resIs_cellA 3 rfl rfl rfl | exact resIs_cellA 4 rfl rfl rfl | exact resIs_cellA 5 rfl rfl rfl | exact resIs_cellA 6 rfl rfl rfl | exact resIs_cellA 7 rfl rfl rfl | exact resIs_cellA 8 rfl rfl rfl | exact resIs_cellA 9 rfl rfl rfl) ?_
    first
      | exact ⟨_, Ent.nil, .inl ⟨by unfold ownB; rw [decide_eq_false];omega, rfl, rfl⟩⟩
      | exact ⟨_, Ent.pick [0] rfl, .inr ⟨by unfold ownB; rw [decide_eq_true];omega, a, c, rfl, rfl⟩⟩
end Go.Proofs.YtpknpbeiifjmgaaGreat
