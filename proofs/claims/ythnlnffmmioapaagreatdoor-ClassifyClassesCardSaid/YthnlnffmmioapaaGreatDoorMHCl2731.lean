/-
  Part 31 of the proof: Qm27, Qn27. No statement of the seat is proved here.
-/
import Derived.Test.YthnlnffmmioapaaGreatDoorMHCl2730
namespace Go.Proofs.YthnlnffmmioapaaGreatDoor
open Go.RowKit
theorem any_names {rs : List Rul} {j : Nat} (hj : j < rs.length) : ((rs.take j).map Rul.name).any (fun y => decide (y = rs[j].name)) = false ↔ ∀ i, i < j → (rs.getD i default).name ≠ rs[j].name := by
  rw [List.any_eq_false]
  constructor
  · intro h i hi e
    have := h (rs.getD i default).name (List.mem_map.2 ⟨rs[i]'(by omega), List.mem_take_iff_getElem.2 ⟨i, by omega, rfl⟩, by rw [getD_lt _ _ _ (show i < rs.length by omega)]⟩)
    rw [e] at this
    simp at this
  · intro h y hy
    obtain ⟨r, hr, rfl⟩ := List.mem_map.1 hy
    obtain ⟨i, hi, rfl⟩ := List.mem_take_iff_getElem.1 hr
    have := h i (by omega)
    rw [getD_lt _ _ _ (show i < rs.length by omega)] at this
    simpa using this
theorem any_name {rs : List Rul} {j k : Nat} (hj : j < rs.length) (hk : k < j) (e : (rs.getD k default).name = rs[j].name) : ((rs.take j).map Rul.name).any (fun y => decide (y = rs[j].name)) = true := by
  cases h : ((rs.take j).map Rul.name).any (fun y => decide (y = rs[j].name)) with
  | true => rfl
  | false => exact absurd e ((any_names hj).1 h k hk)
set_option maxRecDepth 100000 in
set_option maxHeartbeats 4000000 in
theorem rCheckR_sat (lv : Value) (rs : List Rul) (w : World) (hR : Ruls w lv rs) (ht : TbL w) : SatV Tryz.prog 45 [lv] w (.int .i64 (rulE rs)) := by
  have hR0 := hR
  obtain ⟨g, hS, hE, hcp⟩ := hR
  obtain ⟨hbd, la, lc, rfl, hcell⟩ := id hS
  by_cases h64 : 64 < rs.length
  · have he : rulE rs = 4 := by unfold rulE; rw [if_pos h64]
    rw [he]
    refine SatL.of 67 [2] Tryz.func45 (by kernel_rfl) (by kernel_rfl) rfl rfl rfl rfl ?_
    repeat' (first|(apply OK_seq)|(apply thenQ_n)|(apply OK_region)|(apply OKx_nilK)|(apply thenQ_r)|(apply OK_condT;exact rfl)|(apply OK_ret)|(apply OKx_move;(conv=>lhs;whnf)<;>exact rfl)|(apply OKx_assign;(conv=>lhs;whnf)<;>exact rfl)|(apply OKx_len;exact rfl)|(apply OKx_gtr;exact rfl;exact rfl;all_goals (intro _; try (exfalso;omega))))
    all_goals (try (exfalso;omega))
    refine bodyQ_r1 (by ((conv=>lhs;whnf)<;>exact rfl)) ?_
    exact ⟨_, Ent.nil, rfl, rfl⟩
  have he : rulE rs = if rulsF [] rs ≠ 0 then rulsF [] rs else if 65536 < (linL rs).length then 4 else 0 := by unfold rulE; rw [if_neg h64]
  refine SatL.of 67 [2] Tryz.func45 (by kernel_rfl) (by kernel_rfl) rfl rfl rfl rfl ?_
  repeat' (first|(apply OK_seq)|(apply thenQ_n)|(apply OK_region)|(apply OKx_nilK)|(apply OK_block)|(apply OK_condF;exact rfl)|(apply OK_skip)|(apply OKx_move;(conv=>lhs;whnf)<;>exact rfl)|(apply OKx_assign;(conv=>lhs;whnf)<;>exact rfl)|(apply OKx_len;exact rfl)|(apply OKx_gtr;exact rfl;exact rfl;all_goals (intro _; try (exfalso;omega))))
  all_goals (try (exfalso;omega))
  refine OK_loop1 3 [2, 3, 4, 5, 9, 10, 11, 12, 13, 14, 15, 16, 17, 18, 19, 20, 21, 22, 23, 24, 25, 26, 27, 28, 29, 30, 31, 32, 33, 34, 35, 36, 37, 38, 39, 40, 41, 42, 43, 44, 45, 46, 47, 48, 49, 50, 51, 52, 53, 54, 55, 56, 57, 58, 59, 60, 61, 62] (fun m v L => ∃ j : Nat, j + m = rs.length ∧ v = .int .i64 (j : Int) ∧ (∀ r ∈ rs.take j, rulOk r) ∧ rulsF [] rs = rulsF ((rs.take j).map Rul.name) (rs.drop j) ∧ L = []) rs.length _ (Ent.refl _ _) ⟨0, by omega, rfl, by simp, rfl, rfl⟩ ?_
  rintro m vj L G ⟨j, hm, rfl, hok, hF, rfl⟩
  by_cases hj : j < rs.length
  · rw [List.drop_eq_getElem_cons hj, rulsF_step] at hF
    obtain ⟨a1, a2, a3, a4, hag, hX, hnz⟩ := hE j hj
    have hag2 := Value.agg.inj hag
    simp only [Array.mk.injEq, List.cons.injEq, and_true] at hag2
    obtain ⟨e0, e1, e2, e3, e4⟩ := hag2
    have hI := fun w1 => rIsN_sat rs[j].name w1 hnz
    have hE14 : (isNm rs[j].name = false ∨ rs[j].name = ⟨#[98, 97, 115, 101]⟩ ∨ rs[j].name = ⟨#[111, 116, 104, 101, 114]⟩) → rulE rs = 14 := fun h => by
      have e : rulsF [] rs = 14 := by rw [hF, if_pos h]
      rw [he, if_pos (by rw [e]; decide), e]
    have hE7 : ¬(isNm rs[j].name = false ∨ rs[j].name = ⟨#[98, 97, 115, 101]⟩ ∨ rs[j].name = ⟨#[111, 116, 104, 101, 114]⟩) → ((rs.take j).map Rul.name).any (fun y => decide (y = rs[j].name)) = true → rulE rs = 7 := fun h h2 => by
      have e : rulsF [] rs = 7 := by rw [hF, if_neg h, if_pos h2]
      rw [he, if_pos (by rw [e]; decide), e]
    have hEr : ¬(isNm rs[j].name = false ∨ rs[j].name = ⟨#[98, 97, 115, 101]⟩ ∨ rs[j].name = ⟨#[111, 116, 104, 101, 114]⟩) → ((rs.take j).map Rul.name).any (fun y => decide (y = rs[j].name)) = false → rgtE rs[j].cnd ≠ 0 → rulE rs = rgtE rs[j].cnd := fun h h2 h3 => by
      have e : rulsF [] rs = rgtE rs[j].cnd := by rw [hF, if_neg h, if_neg (by rw [h2]; decide), if_pos h3]
      rw [he, if_pos (by rw [e]; exact h3), e]
    have hEn : ¬(isNm rs[j].name = false ∨ rs[j].name = ⟨#[98, 97, 115, 101]⟩ ∨ rs[j].name = ⟨#[111, 116, 104, 101, 114]⟩) → ((rs.take j).map Rul.name).any (fun y => decide (y = rs[j].name)) = false → rgtE rs[j].cnd = 0 → rulsF [] rs = rulsF ((rs.take (j + 1)).map Rul.name) (rs.drop (j + 1)) := fun h h2 h3 => by
      rw [hF, if_neg h, if_neg (by rw [h2]; decide), if_neg (fun hh => hh h3), List.take_succ_eq_append_getElem hj, List.map_append]
      rfl
    have hno : isNm rs[j].name = true → rs[j].name ≠ ⟨#[98, 97, 115, 101]⟩ → rs[j].name ≠ ⟨#[111, 116, 104, 101, 114]⟩ → ¬(isNm rs[j].name = false ∨ rs[j].name = ⟨#[98, 97, 115, 101]⟩ ∨ rs[j].name = ⟨#[111, 116, 104, 101, 114]⟩) := by
      rintro h1 h2 h3 (h | h | h)
      · rw [h1] at h; cases h
      · exact h2 h
      · exact h3 h
    have hOk : isNm rs[j].name = true → rgtE rs[j].cnd = 0 → ∀ r ∈ rs.take (j + 1), rulOk r := fun h1 h2 r hr => by
      rw [List.take_succ_eq_append_getElem hj] at hr
      rcases List.mem_append.1 hr with hr | hr
      · exact hok r hr
      · rw [List.mem_singleton.1 hr]
        have := isNm_size h1
        exact ⟨h2, by omega⟩
    have hRt := fun w1 (h : Below w.heap.size w w1) => rexpr_sat _ rs[j].cnd w1 (hX.below h)
    rw [← e1, ← e2, ← e3, ← e4] at hRt
    repeat' (first|(apply OK_seq)|(apply thenQ_n)|(apply OK_region)|(apply OKx_gi; refine OKx_idxR2 (i := j) rfl hS rfl hj ?_; intro pp hpp)|(refine OKx_fldR (off := 0) rfl hpp (by decide) ?_; rw [e0]; intro pq hpq)|(apply OKx_gl; refine OKx_ldR rfl hpq ?_)|(apply OKx_gc 73;exact rfl; refine OKx_callB (f := 73) rfl rfl rfl (fun w1 hp => hI w1) ?_ ?_ <;> intro q1)|(apply OKx_nilK)|(apply OK_block)|(apply thenQ_r)|(apply blockQ_r)|(apply OK_condT;exact rfl)|(apply OK_condF;exact rfl)|(apply OK_skip)|(apply OK_ret)|(apply OKx_move;(conv=>lhs;whnf)<;>exact rfl)|(apply OKx_assign;(conv=>lhs;whnf)<;>exact rfl)|(apply OKx_len;exact rfl)|(apply OKx_lss;exact rfl;exact rfl;all_goals (intro _; try (exfalso;omega)))|(apply OKx_seql;exact rfl;exact rfl; all_goals intro _)|(apply OKx_pickT;exact rfl;(conv=>lhs;whnf)<;>exact rfl)|(apply OKx_pickF;exact rfl;(conv=>lhs;whnf)<;>exact rfl)|(apply OKx_guardT;exact rfl;exact rfl)|(apply OKx_guardF;exact rfl;exact rfl)|(apply OKx_notT;exact rfl)|(apply OKx_notF;exact rfl))
    all_goals (try (exfalso;omega))
    all_goals try
      ((refine bodyQ_r1 (by ((conv=>lhs;whnf)<;>exact rfl)) ?_)
       refine ⟨_, Ent.nil, int_eq ?_, rfl⟩
       first
         | exact (hE14 (.inl q1)).symm
         | exact (hE14 (.inr (.inl (by assumption)))).symm
         | exact (hE14 (.inr (.inr (by assumption)))).symm)
    have hn2 := hno q1 (by assumption) (by assumption)
    refine OK_loop1 4 [2, 4, 38, 39, 40, 41, 42, 43, 44, 45, 46, 47, 48, 49, 50, 51, 52, 53] (fun m2 v2 L => ∃ k : Nat, k + m2 = j ∧ v2 = .int .i64 (k : Int) ∧ (∀ i, i < k → (rs.getD i default).name ≠ rs[j].name) ∧ L = []) j _ (Ent.refl _ _) ⟨0, by omega, rfl, fun i hi => absurd hi (by omega), rfl⟩ ?_
    rintro m2 v2 L G2 ⟨k, hm2, rfl, hne, rfl⟩
    by_cases hk : k < j
    · obtain ⟨c1, c2, c3, c4, hagk, _, _⟩ := hE k (by omega)
      have hagk2 := Value.agg.inj hagk
      simp only [Array.mk.injEq, List.cons.injEq, and_true] at hagk2
      obtain ⟨f0, _⟩ := hagk2
      have hdk : rs.getD k default = rs[k] := getD_lt _ _ _ (by omega)
      repeat' (first|(apply OK_seq)|(apply thenQ_n)|(apply OK_region)|(apply OKx_gi; refine OKx_idxR2 (i := k) rfl hS rfl (by omega) ?_; intro pp hpp)|(apply OKx_gi; refine OKx_idxR2 (i := j) rfl hS rfl hj ?_; intro pp hpp)|(refine OKx_fldR (off := 0) rfl hpp (by decide) ?_;(first | rw [f0] | rw [e0]); intro pq hpq)|(apply OKx_gl; refine OKx_ldR rfl hpq ?_)|(refine OK_rid 11 ?_; refine OK_quiet (id := 11) (by kernel_rfl) (by kernel_rfl) ?_)|(apply OKx_nilK)|(apply OK_block)|(apply blockQ_n)|(apply thenQ_r)|(apply blockQ_r)|(apply OK_condT;exact rfl)|(apply OK_condF;exact rfl)|(apply OK_skip)|(apply OK_ret)|(apply OKx_move;(conv=>lhs;whnf)<;>exact rfl)|(apply OKx_assign;(conv=>lhs;whnf)<;>exact rfl)|(apply OKx_lss;exact rfl;exact rfl;all_goals (intro _; try (exfalso;omega)))|(apply OKx_seql;exact rfl;exact rfl; all_goals intro _)|(apply OKx_inc;exact rfl;exact rfl;omega))
      all_goals (try (exfalso;omega))
      all_goals first
        | ((refine bodyQ_r1 (by ((conv=>lhs;whnf)<;>exact rfl)) ?_)
           exact ⟨_, Ent.nil, int_eq (hE7 hn2 (any_name hj hk (by rw [hdk]; assumption))).symm, rfl⟩)
        | (refine ⟨by (repeat' (first | refine agree_upd rfl ?_ | exact agree_over | exact agree_refl _ _ | refine agree_over2 rfl ?_)), m2 - 1, _, by omega, Ent.nil, ?_⟩
           refine ⟨k + 1, by omega, rfl, fun i hi => ?_, rfl⟩
           by_cases e : i = k
           · subst e; rw [hdk]; assumption
           · exact hne i (by omega))
    · obtain rfl : k = j := by omega
      have q2 := (any_names hj).2 hne
      repeat' (first|(apply OK_seq)|(apply thenQ_n)|(apply OK_region)|(apply OKx_gi; refine OKx_idxR2 (i := k) rfl hS rfl hj ?_; intro pp hpp)|(refine OKx_fldRA (off := 1) (len := 4) rfl hpp (by decide) ?_; intro pq hpq)|(apply OKx_gl; refine OKx_ldRA rfl hpq ?_)|(apply OKx_gc 74;exact rfl; refine OKx_callV (f := 74) rfl rfl rfl (fun w1 hp => hRt w1 hp.below) ?_)|(apply OKx_nilK)|(apply blockQ_n)|(apply blockQ_s)|(apply thenQ_e)|(apply thenQ_r)|(apply blockQ_r)|(apply OK_condT;exact rfl)|(apply OK_condF;exact rfl)|(apply OK_skip)|(apply OK_exit)|(apply OK_ret)|(apply OKx_move;(conv=>lhs;whnf)<;>exact rfl)|(apply OKx_assign;(conv=>lhs;whnf)<;>exact rfl)|(apply OKx_lss;exact rfl;exact rfl;all_goals (intro _; try (exfalso;omega)))|(apply OKx_neq;exact rfl;exact rfl;all_goals (intro _; try (exfalso;omega)))|(apply OKx_inc;exact rfl;exact rfl;omega))
      all_goals (try (exfalso;omega))
      all_goals first
        | ((refine bodyQ_r1 (by ((conv=>lhs;whnf)<;>exact rfl)) ?_)
           exact ⟨_, Ent.nil, int_eq (hEr hn2 q2 (by assumption)).symm, rfl⟩)
        | (refine ⟨by (repeat' (first | refine agree_upd rfl ?_ | exact agree_over | exact agree_refl _ _ | refine agree_over2 rfl ?_)), m - 1, _, by omega, Ent.nil, ?_⟩
           exact ⟨k + 1, by omega, rfl, hOk q1 (by assumption), hEn hn2 q2 (by assumption), rfl⟩)
  · obtain rfl : j = rs.length := by omega
    rw [List.take_length] at hok
    have h0 : rulsF [] rs = 0 := by rw [hF, List.drop_length]; rfl
    have hLn := fun w1 (h : Below w.heap.size w w1) => print_sat _ rs w1 (hR0.below h) (ht.below h) (by omega) hok
    rw [he, if_neg (fun hh => hh h0)]
    repeat' (first|(apply OK_seq)|(apply thenQ_n)|(apply OK_region)|(apply OKx_gc 75;exact rfl; refine OKx_call (f := 75) rfl rfl (fun w1 hp => hLn w1 hp.below) ?_; rintro _ _ ⟨q, aq, cq, hq1, hq2, rfl, rfl⟩; rw [List.cons_append, List.nil_append])|(apply OKx_nilK)|(apply blockQ_s)|(apply thenQ_e)|(apply thenQ_r)|(apply OK_condT;exact rfl)|(apply OK_condF;exact rfl)|(apply OK_skip)|(apply OK_exit)|(apply OK_ret)|(apply OKx_move;(conv=>lhs;whnf)<;>exact rfl)|(apply OKx_assign;(conv=>lhs;whnf)<;>exact rfl)|(apply OKx_len;exact rfl)|(apply OKx_lss;exact rfl;exact rfl;all_goals (intro _; try (exfalso;omega)))|(apply OKx_gtr;exact rfl;exact rfl;all_goals (intro _; try (exfalso;omega))))
    all_goals (try (exfalso;omega))
    all_goals
      refine bodyQ_r1 (by ((conv=>lhs;whnf)<;>exact rfl)) ?_
      refine ⟨_, Ent.nil, int_eq ?_, rfl⟩
      rw [List.nil_append] at hq2
      rw [List.length_nil, Nat.zero_add] at hq1
      rcases hq2 with rfl | hq2
      · first | rw [if_pos (by omega)] | rw [if_neg (by omega)]
      · first | (exfalso;omega) | rw [if_pos (by omega)]
end Go.Proofs.YthnlnffmmioapaaGreatDoor
namespace Go.Proofs.YthnlnffmmioapaaGreatDoor
open Go.RowKit
set_option maxRecDepth 100000 in
set_option maxHeartbeats 4000000 in
theorem rclass_sat (lv bv rv : Value) (rs : List Rul) (b : List ByteArray) (r : Rdn) (w : World) (hR : Ruls w lv rs) (hB : Strs w bv b) (hRd : RdnV w r rv) (hb : wdsB b = true) (hr : rdgB r = true) (ho : ∀ x ∈ rs, x.cnd.own = true) :
    SatV Tryz.prog 47 [lv, bv, rv] w (.string (clsN rs b r)) := by
  obtain ⟨g, hS, hE, hcp⟩ := hR
  obtain ⟨hbd, la, lc, rfl, _⟩ := id hS
  have hB0 := hB
  obtain ⟨ba, bc, rfl, hbl, _⟩ := hB.at
  have hRd0 := hRd
  obtain ⟨wv, sv, rfl, hWv, hSv⟩ := hRd
  obtain ⟨wa, wc, rfl, hwl, _⟩ := hWv.at
  obtain ⟨sa, sc, rfl, hsl, _⟩ := hSv.at
  refine SatL.of 27 [6] Tryz.func47 (by kernel_rfl) (by kernel_rfl) rfl rfl rfl rfl ?_
  repeat' (first|(apply OK_seq)|(apply thenQ_n)|(apply OK_region)|(apply OKx_boxA;exact rfl; intro gc)|(apply OKx_nilK)|(apply OK_block)|(apply OKx_assign;(conv=>lhs;whnf)<;>exact rfl))
  refine OK_loop1 7 [6, 7, 8, 9, 10, 11, 12, 13, 14, 15, 16, 17, 18, 19, 20, 21, 22, 23, 24, 25, 26] (fun m v L => ∃ j : Nat, j + m = rs.length ∧ v = .int .i64 (j : Int) ∧ (∀ x ∈ rs.take j, x.cnd.hd b r.words r.src.length = false) ∧ L = [.box 33 gc [.slice wa r.words.length wc, .slice sa r.src.length sc]]) rs.length _ (Ent.refl _ _) ⟨0, by omega, rfl, by simp, rfl⟩ ?_
  rintro m vj L G ⟨j, hm, rfl, H, rfl⟩
  by_cases hj : j < rs.length
  · obtain ⟨a1, a2, a3, a4, hag, hX, hnz⟩ := hE j hj
    have hag2 := Value.agg.inj hag
    simp only [Array.mk.injEq, List.cons.injEq, and_true] at hag2
    obtain ⟨e0, e1, e2, e3, e4⟩ := hag2
    have hH := fun w1 (h : Below w.heap.size w w1) => rholds_sat _ rs[j].cnd (Nat.le_refl _) (ho _ (List.getElem_mem hj)) _ _ _ b r w1 (hX.below h) (hB0.below h) (hRd0.below h) hb hr
    rw [← e1, ← e2, ← e3, ← e4] at hH
    repeat' (first|(apply OK_seq)|(apply thenQ_n)|(apply OK_region)|(apply OKx_gi; refine OKx_idxR2 (i := j) rfl hS rfl hj ?_; intro pp hpp)|(refine OKx_fldR (off := 0) rfl hpp (by decide) ?_; rw [e0]; intro pq hpq)|(refine OKx_fldRA (off := 1) (len := 4) rfl hpp (by decide) ?_; intro pq hpq)|(apply OKx_gl; refine OKx_ldR rfl hpq ?_)|(apply OKx_gl; refine OKx_ldRA rfl hpq ?_)|(apply OKx_gc 35;exact rfl; refine OKx_callB (f := 35) rfl rfl rfl (fun w1 hp => hH w1 hp.below) ?_ ?_ <;> intro hq)|(refine OK_rid 4 ?_; refine OK_quiet (id := 4) (by kernel_rfl) (by kernel_rfl) ?_)|(apply OKx_nilK)|(apply OK_block)|(apply blockQ_n)|(apply thenQ_r)|(apply blockQ_r)|(apply OK_condT;exact rfl)|(apply OK_condF;exact rfl)|(apply OK_skip)|(apply OK_ret)|(apply OKx_move;(conv=>lhs;whnf)<;>exact rfl)|(apply OKx_assign;(conv=>lhs;whnf)<;>exact rfl)|(apply OKx_len;exact rfl)|(apply OKx_lss;exact rfl;exact rfl;all_goals (intro _; try (exfalso;omega)))|(apply OKx_inc;exact rfl;exact rfl;omega)|(apply OKx_ldBA;exact rfl; (apply atP;constructor);exact rfl))
    all_goals (try (exfalso;omega))
    · refine bodyQ_r1 (by ((conv=>lhs;whnf)<;>exact rfl)) ?_
      exact ⟨_, Ent.nil, by rw [clsN_skip j hj H hq], rfl⟩
    · refine ⟨by (repeat' (first | refine agree_upd rfl ?_ | exact agree_over | exact agree_refl _ _ | refine agree_over2 rfl ?_)), m - 1, _, by omega, Ent.pick [0] rfl, ?_⟩
      refine ⟨j + 1, by omega, rfl, fun x hx => ?_, rfl⟩
      rw [List.take_succ_eq_append_getElem hj] at hx
      rcases List.mem_append.1 hx with hx | hx
      · exact H x hx
      · rw [List.mem_singleton.1 hx]; exact hq
  · obtain rfl : j = rs.length := by omega
    rw [List.take_length] at H
    repeat' (first|(apply OK_seq)|(apply thenQ_n)|(apply OK_region)|(apply OKx_nilK)|(apply blockQ_s)|(apply thenQ_e)|(apply OK_condF;exact rfl)|(apply OK_exit)|(apply OK_ret)|(apply OKx_move;(conv=>lhs;whnf)<;>exact rfl)|(apply OKx_assign;(conv=>lhs;whnf)<;>exact rfl)|(apply OKx_len;exact rfl)|(apply OKx_lss;exact rfl;exact rfl;all_goals (intro _; try (exfalso;omega))))
    all_goals (try (exfalso;omega))
    refine bodyQ_r1 (by ((conv=>lhs;whnf)<;>exact rfl)) ?_
    exact ⟨_, Ent.nil, by rw [clsN_none H], rfl⟩
set_option maxRecDepth 100000 in
set_option maxHeartbeats 4000000 in
theorem rClass_sat (lv bv rv : Value) (rs : List Rul) (b : List ByteArray) (r : Rdn) (w : World) (hR : Ruls w lv rs) (hB : Strs w bv b) (hRd : RdnV w r rv) (ht : TbL w) :
    SatV Tryz.prog 20 [lv, bv, rv] w (.tuple #[.string (claN rs b r), .int .i64 (claE rs b r)]) := by
  have hC := fun w1 (h : Below w.heap.size w w1) => rCheckR_sat lv rs w1 (hR.below h) (ht.below h)
  have hW := fun w1 (h : Below w.heap.size w w1) => rwords_sat bv b w1 (hB.below h)
  have hG := fun w1 (h : Below w.heap.size w w1) => rright27_sat rv r w1 (hRd.below h)
  have hH0 := fun w1 (h : Below w.heap.size w w1) h1 h2 h3 => rclass_sat lv bv rv rs b r w1 (hR.below h) (hB.below h) (hRd.below h) h1 h2 h3
  obtain ⟨g, hS, _⟩ := hR
  obtain ⟨_, la, lc, rfl, _⟩ := id hS
  obtain ⟨ba, bc, rfl, hbl, _⟩ := hB.at
  obtain ⟨wv, sv, rfl, hWv, hSv⟩ := hRd
  obtain ⟨wa, wc, rfl, hwl, _⟩ := hWv.at
  obtain ⟨sa, sc, rfl, hsl, _⟩ := hSv.at
  by_cases h0 : rulE rs = 0 ∧ wdsB b = true ∧ rdgB r = true
  · have e0 : claE rs b r = 0 := claE_zero.2 h0
    have hH := fun w1 h => hH0 w1 h h0.2.1 h0.2.2 (rul_own h0.1)
    rw [h0.1] at hC
    rw [h0.2.1] at hW
    rw [h0.2.2] at hG
    rw [show claN rs b r = clsN rs b r from if_pos e0, e0]
    refine SatL.of 25 [6, 7] Tryz.func20 (by kernel_rfl) (by kernel_rfl) rfl rfl rfl rfl ?_
    repeat' (first|(apply OK_seq)|(apply thenQ_n)|(apply OK_region)|(apply OKx_gc 45;exact rfl; refine OKx_callV (f := 45) rfl rfl rfl (fun w1 hp => hC w1 hp.below) ?_)|(apply OKx_gc 33;exact rfl; refine OKx_callV (f := 33) rfl rfl rfl (fun w1 hp => hW w1 hp.below) ?_)|(apply OKx_gc 34;exact rfl; refine OKx_callV (f := 34) rfl rfl rfl (fun w1 hp => hG w1 hp.below) ?_)|(apply OKx_gc 47;exact rfl; refine OKx_callV (f := 47) rfl rfl rfl (fun w1 hp => hH w1 hp.below) ?_)|(apply OKx_nilK)|(apply OK_condF;exact rfl)|(apply OK_skip)|(apply OK_ret)|(apply OKx_move;(conv=>lhs;whnf)<;>exact rfl)|(apply OKx_assign;(conv=>lhs;whnf)<;>exact rfl)|(apply OKx_neq;exact rfl;exact rfl;all_goals (intro _; try (exfalso;omega)))|(apply OKx_pickF;exact rfl;(conv=>lhs;whnf)<;>exact rfl)|(apply OKx_guardT;exact rfl;exact rfl)|(apply OKx_notT;exact rfl)|(apply OKx_boxA;exact rfl;intro _)|(apply OKx_ldBA;exact rfl; (apply atP;constructor);exact rfl))
    refine bodyQ_r2 (by ((conv=>lhs;whnf)<;>exact rfl)) (by ((conv=>lhs;whnf)<;>exact rfl)) ?_
    exact ⟨_, Ent.nil, rfl, rfl⟩
  · have e0 : claE rs b r = 1 := if_neg h0
    rw [show claN rs b r = ⟨#[]⟩ from if_neg (by rw [e0]; decide), e0]
    clear hH0
    refine SatL.of 25 [6, 7] Tryz.func20 (by kernel_rfl) (by kernel_rfl) rfl rfl rfl rfl ?_
    repeat' (first|(apply OK_seq)|(apply thenQ_n)|(apply OK_region)|(apply OKx_gc 45;exact rfl; refine OKx_callV (f := 45) rfl rfl rfl (fun w1 hp => hC w1 hp.below) ?_)|(apply OKx_gc 33;exact rfl; refine OKx_callB (f := 33) rfl rfl rfl (fun w1 hp => hW w1 hp.below) ?_ ?_ <;> intro q2)|(apply OKx_gc 34;exact rfl; refine OKx_callB (f := 34) rfl rfl rfl (fun w1 hp => hG w1 hp.below) ?_ ?_ <;> intro q3; (try exact absurd ⟨by assumption, q2, q3⟩ h0))|(apply OKx_nilK)|(apply thenQ_r)|(apply OK_condT;exact rfl)|(apply OK_ret)|(apply OKx_move;(conv=>lhs;whnf)<;>exact rfl)|(apply OKx_assign;(conv=>lhs;whnf)<;>exact rfl)|(apply OKx_neq;exact rfl;exact rfl;all_goals (intro _; try (exfalso;omega)))|(apply OKx_pickT;exact rfl;(conv=>lhs;whnf)<;>exact rfl)|(apply OKx_pickF;exact rfl;(conv=>lhs;whnf)<;>exact rfl)|(apply OKx_guardT;exact rfl;exact rfl)|(apply OKx_guardF;exact rfl;exact rfl)|(apply OKx_notT;exact rfl)|(apply OKx_notF;exact rfl)|(apply OKx_boxA;exact rfl;intro _)|(apply OKx_ldBA;exact rfl; (apply atP;constructor);exact rfl))
    all_goals
      refine bodyQ_r2 (by ((conv=>lhs;whnf)<;>exact rfl)) (by ((conv=>lhs;whnf)<;>exact rfl)) ?_
      exact ⟨_, Ent.nil, rfl, rfl⟩
set_option maxRecDepth 100000 in
set_option maxHeartbeats 4000000 in
theorem rNames_sat (lv : Value) (rs : List Rul) (w : World) (hR : Ruls w lv rs) (hl : rs.length ≤ 1000000) : Sat Tryz.prog 24 [lv] w (fun u L => L = [.row 9 1 u (namL rs).length (strs (namL rs))]) := by
  obtain ⟨g, hS, hE, hcp⟩ := hR
  obtain ⟨hbd, la, lc, rfl, _⟩ := id hS
  refine SatL.of 20 [2] Tryz.func24 (by kernel_rfl) (by kernel_rfl) rfl rfl rfl rfl ?_
  repeat' (first|(apply OK_seq)|(apply thenQ_n)|(apply OK_region)|(apply OKx_nilK)|(apply OK_block)|(apply OKx_assign;(conv=>lhs;whnf)<;>exact rfl))
  refine OK_loop2 3 4 [3, 4, 5, 6, 7, 8, 9, 10, 11, 12, 13, 14, 15, 16, 17, 18] (fun m v3 v8 L => ∃ j : Nat, j + m = rs.length ∧ v8 = .int .i64 (j : Int) ∧ L = [.row 9 1 v3 (namL (rs.take j)).length (strs (namL (rs.take j)))]) rs.length _ (Ent.mk fun w1 h1 => h1.nil _ _) ⟨0, by omega, rfl, rfl⟩ ?_
  rintro m v3 v8 L G ⟨j, hm, rfl, rfl⟩
  by_cases hj : j < rs.length
  · obtain ⟨a1, a2, a3, a4, hag, hX, hnz⟩ := hE j hj
    have hag2 := Value.agg.inj hag
    simp only [Array.mk.injEq, List.cons.injEq, and_true] at hag2
    obtain ⟨e0, _⟩ := hag2
    have hnm : namL (rs.take (j + 1)) = namL (rs.take j) ++ [rs[j].name] := by
      unfold namL
      rw [List.take_succ_eq_append_getElem hj, List.map_append]
      rfl
    have hnl : (namL (rs.take j)).length = j := by rw [namL_len, List.length_take];omega
    have hss := strs_snoc27 (namL (rs.take j)) rs[j].name
    repeat' (first|(apply OK_seq)|(apply thenQ_n)|(apply OK_region)|(apply OKx_gi; refine OKx_idxR2 (i := j) rfl hS rfl hj ?_; intro pp hpp)|(refine OKx_fldR (off := 0) rfl hpp (by decide) ?_; rw [e0]; intro pq hpq)|(apply OKx_gl; refine OKx_ldR rfl hpq ?_)|(apply OKx_gb; refine OKx_append1 1 0 rfl rfl rfl rfl rfl (by omega) (by omega) ?_; intro gr cr)|(apply OKx_nilK)|(apply OK_block)|(apply blockQ_n)|(apply OK_condT;exact rfl)|(apply OK_skip)|(apply OKx_move;(conv=>lhs;whnf)<;>exact rfl)|(apply OKx_assign;(conv=>lhs;whnf)<;>exact rfl)|(apply OKx_len;exact rfl)|(apply OKx_lss;exact rfl;exact rfl;all_goals (intro _; try (exfalso;omega)))|(apply OKx_inc;exact rfl;exact rfl;omega)|(apply OKx_slit1;(conv=>lhs;whnf)<;>exact rfl;exact rfl;intro _))
    all_goals (try (exfalso;omega))
    refine ⟨by (repeat' (first | refine agree_upd rfl ?_ | exact agree_over | exact agree_refl _ _ | refine agree_over2 rfl ?_)), m - 1, _, by omega, Ent.pick [1] rfl, ?_⟩
    exact ⟨j + 1, by omega, rfl, by rw [hnm, List.length_append, hss] <;> rfl⟩
  · obtain rfl : j = rs.length := by omega
    rw [List.take_length]
    repeat' (first|(apply OK_seq)|(apply thenQ_n)|(apply OK_region)|(apply OKx_nilK)|(apply blockQ_s)|(apply thenQ_e)|(apply OK_condF;exact rfl)|(apply OK_exit)|(apply OK_ret)|(apply OKx_move;(conv=>lhs;whnf)<;>exact rfl)|(apply OKx_assign;(conv=>lhs;whnf)<;>exact rfl)|(apply OKx_len;exact rfl)|(apply OKx_lss;exact rfl;exact rfl;all_goals (intro _; try (exfalso;omega))))
    all_goals (try (exfalso;omega))
    refine bodyQ_r1 (by ((conv=>lhs;whnf)<;>exact rfl)) ?_
    exact ⟨_, Ent.refl _ _, rfl⟩
set_option maxRecDepth 100000 in
set_option maxHeartbeats 4000000 in
theorem rUnit_sat (lv bv a1 a2 uv : Value) (rs : List Rul) (b : List ByteArray) (l : List Rdn) (w : World) (hR : Ruls w lv rs) (hB : Strs w bv b) (hU : Rdns w uv l) (ht : TbL w) (hl : l.length ≤ 100000000) :
    Sat Tryz.prog 17 [lv, bv, .agg #[a1, a2, uv]] w (UntR rs b l) := by
  have hC := fun w1 (h : Below w.heap.size w w1) => rCheckR_sat lv rs w1 (hR.below h) (ht.below h)
  have hW := fun w1 (h : Below w.heap.size w w1) => rwords_sat bv b w1 (hB.below h)
  have hH0 := fun (rv : Value) (r : Rdn) w1 (h : Below w.heap.size w w1) (hr : RdnV w r rv) h1 h2 h3 => rclass_sat lv bv rv rs b r w1 (hR.below h) (hB.below h) (hr.below h) h1 h2 h3
  have hQ := fun (wv : Value) (ws : List ByteArray) w1 (h : Below w.heap.size w w1) (hr : Strs w wv ws) => same27_sat wv bv ws b w1 (hr.below h) (hB.below h)
  obtain ⟨g, hS, _⟩ := hR
  obtain ⟨_, la, lc, rfl, _⟩ := id hS
  obtain ⟨ba, bc, rfl, hbl, _⟩ := hB.at
  obtain ⟨gu, hSu, hEu⟩ := hU
  obtain ⟨hub, ua, uc, rfl, _⟩ := id hSu
  by_cases h0 : rulE rs = 0 ∧ wdsB b = true
  rotate_left
  · have e0 : untE rs b l = 1 := if_neg fun h => h0 ⟨h.1, h.2.1⟩
    unfold UntR
    rw [show untL rs b l = [] from if_neg (by rw [e0]; decide), e0]
    clear hH0 hQ
    refine SatL.of 55 [6, 7] Tryz.func17 (by kernel_rfl) (by kernel_rfl) rfl rfl rfl rfl ?_
    repeat' (first|(apply OK_seq)|(apply thenQ_n)|(apply OK_region)|(apply OKx_gc 45;exact rfl; refine OKx_callV (f := 45) rfl rfl rfl (fun w1 hp => hC w1 hp.below) ?_)|(apply OKx_gc 33;exact rfl; refine OKx_callB (f := 33) rfl rfl rfl (fun w1 hp => hW w1 hp.below) ?_ ?_ <;> intro q2; (try exact absurd ⟨by assumption, q2⟩ h0))|(apply OKx_nilK)|(apply thenQ_r)|(apply OK_condT;exact rfl)|(apply OK_ret)|(apply OKx_move;(conv=>lhs;whnf)<;>exact rfl)|(apply OKx_assign;(conv=>lhs;whnf)<;>exact rfl)|(apply OKx_neq;exact rfl;exact rfl;all_goals (intro _; try (exfalso;omega)))|(apply OKx_pickT;exact rfl;(conv=>lhs;whnf)<;>exact rfl)|(apply OKx_pickF;exact rfl;(conv=>lhs;whnf)<;>exact rfl)|(apply OKx_guardT;exact rfl;exact rfl)|(apply OKx_guardF;exact rfl;exact rfl)|(apply OKx_notF;exact rfl)|(apply OKx_boxA;exact rfl;intro _))
    all_goals
      refine bodyQ_r2 (by ((conv=>lhs;whnf)<;>exact rfl)) (by ((conv=>lhs;whnf)<;>exact rfl)) ?_
      exact ⟨_, Ent.mk fun w1 h1 => (h1.none).nil _ _, _, rfl, rfl⟩
  rw [h0.1] at hC
  rw [h0.2] at hW
  refine SatL.of 55 [6, 7] Tryz.func17 (by kernel_rfl) (by kernel_rfl) rfl rfl rfl rfl ?_
  repeat' (first|(apply OK_seq)|(apply thenQ_n)|(apply OK_region)|(apply OKx_boxA;exact rfl; intro gx)|(apply OKx_gc 45;exact rfl; refine OKx_callV (f := 45) rfl rfl rfl (fun w1 hp => hC w1 hp.below) ?_)|(apply OKx_gc 33;exact rfl; refine OKx_callV (f := 33) rfl rfl rfl (fun w1 hp => hW w1 hp.below) ?_)|(apply OKx_nilK)|(apply OK_block)|(apply OK_condF;exact rfl)|(apply OK_skip)|(apply OKx_move;(conv=>lhs;whnf)<;>exact rfl)|(apply OKx_assign;(conv=>lhs;whnf)<;>exact rfl)|(apply OKx_neq;exact rfl;exact rfl;all_goals (intro _; try (exfalso;omega)))|(apply OKx_pickF;exact rfl;(conv=>lhs;whnf)<;>exact rfl)|(apply OKx_guardT;exact rfl;exact rfl)|(apply OKx_notT;exact rfl))
  refine OK_loop2 8 9 [6, 7, 8, 9, 18, 19, 20, 21, 22, 23, 24, 25, 26, 27, 28, 29, 30, 31, 32, 33, 34, 35, 36, 37, 38, 39, 40, 41, 42, 43, 44, 45, 46, 47, 48, 49, 50, 51, 52, 53] (fun m v8 v9 L => ∃ j : Nat, j + m = l.length ∧ v9 = .int .i64 (j : Int) ∧ (∀ i, i < j → rdgB (l.getD i default) = true) ∧ L = [.row 9 1 v8 (unN rs b (l.take j)).length (strs (unN rs b (l.take j))), .box 46 gx [a1, a2, .slice ua l.length uc]]) l.length _ (Ent.mk fun w1 h1 => h1.nil _ _) ⟨0, by omega, rfl, fun i hi => absurd hi (by omega), rfl⟩ ?_
  rintro m v8 v9 L G ⟨j, hm, rfl, H, rfl⟩
  by_cases hj : j < l.length
  · have hr := hEu j hj
    have hr0 := hr
    obtain ⟨wv, sv, hag, hWv, hSv⟩ := hr0
    have hag2 := Value.agg.inj hag
    simp only [Array.mk.injEq, List.cons.injEq, and_true] at hag2
    obtain ⟨f0, f1⟩ := hag2
    have hd : l.getD j default = l[j] := getD_lt _ _ _ hj
    have hG := fun w1 (h : Below w.heap.size w w1) => rright27_sat _ l[j] w1 (hr.below h)
    have hnm := unN_step rs b l j hj
    have hnl : (unN rs b (l.take j)).length = j := by rw [unN_len, List.length_take];omega
    have hss := strs_snoc27 (unN rs b (l.take j)) (unB rs b l[j])
    have hq0 := fun w1 h => hQ wv l[j].words w1 h hWv
    rw [← f0] at hq0
    cases hg : rdgB l[j]
    · have e0 : untE rs b l = 1 := if_neg fun h => by
        have := List.all_eq_true.1 h.2.2 _ (List.getElem_mem hj)
        rw [hg] at this
        cases this
      unfold UntR
      rw [show untL rs b l = [] from if_neg (by rw [e0]; decide), e0]
      rw [hg] at hG
      repeat' (first|(apply OK_seq)|(apply thenQ_n)|(apply OK_region)|(apply OKx_gi; refine OKx_idxR2 (i := j) rfl hSu rfl hj ?_; intro pp hpp)|(apply OKx_gl; refine OKx_ldRA rfl hpp ?_)|(apply OKx_gc 34;exact rfl; refine OKx_callV (f := 34) rfl rfl rfl (fun w1 hp => hG w1 hp.below) ?_)|(apply OKx_nilK)|(apply OK_block)|(apply thenQ_r)|(apply blockQ_r)|(apply OK_condT;exact rfl)|(apply OK_skip)|(apply OK_ret)|(apply OKx_move;(conv=>lhs;whnf)<;>exact rfl)|(apply OKx_assign;(conv=>lhs;whnf)<;>exact rfl)|(apply OKx_ldB;exact rfl; (apply atP;constructor);exact rfl)|(apply OKx_len;exact rfl)|(apply OKx_lss;exact rfl;exact rfl;all_goals (intro _; try (exfalso;omega)))|(apply OKx_fldO;exact rfl;exact rfl)|(apply OKx_notF;exact rfl))
      all_goals (try (exfalso;omega))
      refine bodyQ_r2 (by ((conv=>lhs;whnf)<;>exact rfl)) (by ((conv=>lhs;whnf)<;>exact rfl)) ?_
      exact ⟨_, Ent.mk fun w1 h1 => (h1.none).nil _ _, _, rfl, rfl⟩
    rw [hg] at hG
    have hcl := fun w1 h => hH0 _ l[j] w1 h hr h0.2 hg (rul_own h0.1)
    have H2 : ∀ i, i < j + 1 → rdgB (l.getD i default) = true := fun i hi => by
      by_cases e : i = j
      · subst e; rw [hd]; exact hg
      · exact H i (by omega)
    by_cases hw : l[j].words = b
    · have hub : unB rs b l[j] = baseN := if_pos hw
      rw [decide_eq_true hw] at hq0
      rw [hub] at hnm hss
      repeat' (first|(apply OK_seq)|(apply thenQ_n)|(apply OK_region)|(apply OKx_gi; refine OKx_idxR2 (i := j) rfl hSu rfl hj ?_; intro pp hpp)|(refine OKx_fldR (off := 0) rfl hpp (by decide) ?_; intro pq hpq)|(apply OKx_gl; refine OKx_ldR rfl hpq ?_)|(apply OKx_gl; refine OKx_ldRA rfl hpp ?_)|(apply OKx_gc 34;exact rfl; refine OKx_callV (f := 34) rfl rfl rfl (fun w1 hp => hG w1 hp.below) ?_)|(apply OKx_gc 46;exact rfl; refine OKx_callV (f := 46) rfl rfl rfl (fun w1 hp => hq0 w1 hp.below) ?_)|(apply OKx_gb; refine OKx_append1 1 0 rfl rfl rfl rfl rfl (by omega) (by omega) ?_; intro gr cr)|(apply OKx_nilK)|(apply OK_block)|(apply blockQ_n)|(apply OK_condT;exact rfl)|(apply OK_condF;exact rfl)|(apply OK_skip)|(apply OKx_move;(conv=>lhs;whnf)<;>exact rfl)|(apply OKx_assign;(conv=>lhs;whnf)<;>exact rfl)|(apply OKx_ldB;exact rfl; (apply atP;constructor);exact rfl)|(apply OKx_len;exact rfl)|(apply OKx_lss;exact rfl;exact rfl;all_goals (intro _; try (exfalso;omega)))|(apply OKx_fldO;exact rfl;exact rfl)|(apply OKx_inc;exact rfl;exact rfl;omega)|(apply OKx_notT;exact rfl)|(apply OKx_slit1;(conv=>lhs;whnf)<;>exact rfl;exact rfl;intro _))
      all_goals (try (exfalso;omega))
      refine ⟨by (repeat' (first | refine agree_upd rfl ?_ | exact agree_over | exact agree_refl _ _ | refine agree_over2 rfl ?_)), m - 1, _, by omega, Ent.pick [1, 2] rfl, ?_⟩
      exact ⟨j + 1, by omega, rfl, H2, by rw [hnm, List.length_append, hss] <;> rfl⟩
    · have hub : unB rs b l[j] = clsN rs b l[j] := if_neg hw
      rw [decide_eq_false hw] at hq0
      rw [hub] at hnm hss
      repeat' (first|(apply OK_seq)|(apply thenQ_n)|(apply OK_region)|(apply OKx_gi; refine OKx_idxR2 (i := j) rfl hSu rfl hj ?_; intro pp hpp)|(refine OKx_fldR (off := 0) rfl hpp (by decide) ?_; intro pq hpq)|(apply OKx_gl; refine OKx_ldR rfl hpq ?_)|(apply OKx_gl; refine OKx_ldRA rfl hpp ?_)|(apply OKx_gc 34;exact rfl; refine OKx_callV (f := 34) rfl rfl rfl (fun w1 hp => hG w1 hp.below) ?_)|(apply OKx_gc 46;exact rfl; refine OKx_callV (f := 46) rfl rfl rfl (fun w1 hp => hq0 w1 hp.below) ?_)|(apply OKx_gc 47;exact rfl; refine OKx_callV (f := 47) rfl rfl rfl (fun w1 hp => hcl w1 hp.below) ?_)|(apply OKx_gb; refine OKx_append1 1 0 rfl rfl rfl rfl rfl (by omega) (by omega) ?_; intro gr cr)|(apply OKx_nilK)|(apply OK_block)|(apply blockQ_n)|(apply OK_condT;exact rfl)|(apply OK_condF;exact rfl)|(apply OK_skip)|(apply OKx_move;(conv=>lhs;whnf)<;>exact rfl)|(apply OKx_assign;(conv=>lhs;whnf)<;>exact rfl)|(apply OKx_ldB;exact rfl; (apply atP;constructor);exact rfl)|(apply OKx_len;exact rfl)|(apply OKx_lss;exact rfl;exact rfl;all_goals (intro _; try (exfalso;omega)))|(apply OKx_fldO;exact rfl;exact rfl)|(apply OKx_inc;exact rfl;exact rfl;omega)|(apply OKx_notT;exact rfl)|(apply OKx_slit1;(conv=>lhs;whnf)<;>exact rfl;exact rfl;intro _))
      all_goals (try (exfalso;omega))
      refine ⟨by (repeat' (first | refine agree_upd rfl ?_ | exact agree_over | exact agree_refl _ _ | refine agree_over2 rfl ?_)), m - 1, _, by omega, Ent.pick [1, 2] rfl, ?_⟩
      exact ⟨j + 1, by omega, rfl, H2, by rw [hnm, List.length_append, hss] <;> rfl⟩
  · obtain rfl : j = l.length := by omega
    have hall : l.all rdgB = true := by
      rw [List.all_eq_true]
      intro r hr
      obtain ⟨i, hi, rfl⟩ := List.getElem_of_mem hr
      have := H i hi
      rwa [getD_lt _ _ _ hi] at this
    have e0 : untE rs b l = 0 := untE_zero.2 ⟨h0.1, h0.2, hall⟩
    unfold UntR
    rw [show untL rs b l = unN rs b l from if_pos e0, e0, List.take_length]
    repeat' (first|(apply OK_seq)|(apply thenQ_n)|(apply OK_region)|(apply OKx_nilK)|(apply blockQ_s)|(apply thenQ_e)|(apply OK_condF;exact rfl)|(apply OK_exit)|(apply OK_ret)|(apply OKx_move;(conv=>lhs;whnf)<;>exact rfl)|(apply OKx_assign;(conv=>lhs;whnf)<;>exact rfl)|(apply OKx_ldB;exact rfl; (apply atP;constructor);exact rfl)|(apply OKx_len;exact rfl)|(apply OKx_lss;exact rfl;exact rfl;all_goals (intro _; try (exfalso;omega)))|(apply OKx_fldO;exact rfl;exact rfl))
    all_goals (try (exfalso;omega))
    refine bodyQ_r2 (by ((conv=>lhs;whnf)<;>exact rfl)) (by ((conv=>lhs;whnf)<;>exact rfl)) ?_
    exact ⟨_, Ent.pick [0] rfl, _, rfl, rfl⟩
end Go.Proofs.YthnlnffmmioapaaGreatDoor
