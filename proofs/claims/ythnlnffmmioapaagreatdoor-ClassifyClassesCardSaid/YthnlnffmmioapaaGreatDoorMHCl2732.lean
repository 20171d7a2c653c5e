/-
  Part 32 of the proof: Qo27. No statement of the seat is proved here.
-/
import Derived.Test.YthnlnffmmioapaaGreatDoorMHCl2731
namespace Go.Proofs.YthnlnffmmioapaaGreatDoor
open Go.RowKit
section
variable {P : Program} {n : Nat} {w0 : World} {K : Fm → List Res → Prop} {F : Fm} {L Lw : List Res} {ops : Array Oper} {rest : List Oper} {d : Option Nat} {ty : TypeId} {pos : String} {aft : Array Edge}
theorem OKx_worldN {Lw : List Res} (h : ∀ w, Hp w0.heap.size w0 w L → OKx P n w0 (.seq Lw) ops K rest F L) : OKx P n w0 (.seq Lw) ops K rest F L := by
  unfold OKx
  intro w a hf hp
  exact (h w hp).use w a hf hp
theorem OKx_appRowN {s x : Operand} {t : TypeId} {e e' bytes : Nat} {z : Value} [T : TSlice P t e 1 bytes z] [hE : Keeps w0 L Lw] (i j : Nat) {v u : Value} {N M : Nat} {xs ys : List Value}
    (hs : rv n F s = v) (hx : rv n F x = u) (hi : L[i]? = some (.row e 1 v N xs)) (hj : L[j]? = some (.row e' 1 u M ys)) (hl : ys.length = M) (h1 : ∀ u ∈ ys, u.oneCell' = true)
    (hb : (N + M) * bytes ≤ 140737488355328) (hN : N + M ≤ 9223372036854775807)
    (kk : ∀ v', OKx P n w0 (.seq Lw) ops K rest (updo F d v') (L.set i (.row e 1 v' (N + M) (xs ++ ys)))) :
    OKx P n w0 (.seq Lw) ops K (⟨d, .call { callee := .builtin .append, args := #[s, x], argTypes := #[t, t] }, ty, pos, aft, none⟩ :: rest) F L := by
  refine OKx_worldN fun w hp => ?_
  by_cases hM : M = 0
  · subst hM
    obtain rfl : ys = [] := List.eq_nil_of_length_eq_zero hl
    obtain ⟨a, c, rfl, _⟩ := hp.rowShape i hi
    obtain ⟨ay, cy, rfl, _⟩ := hp.rowShape j hj
    have k2 := kk (.slice a N c)
    rw [List.append_nil, Nat.add_zero] at k2
    have e2 : L.set i (.row e 1 (.slice a N c) N xs) = L := by
      rw [← (List.getElem?_eq_some_iff.1 hi).2, List.set_getElem_self]
    rw [e2] at k2
    exact OKx_app0 i hs hx hi k2
  · obtain ⟨g, c, rfl⟩ := hp.rowForm j hj (by omega)
    refine OKx_append i hs hx hi (by omega) (fun w1 hp1 q u hq => ?_) h1 hb hN (by omega) fun g' cap => kk _
    rw [Nat.zero_add, (hp1.rowAt j hj).1 q (by have := (List.getElem?_eq_some_iff.1 hq).1;omega), hq]
end
theorem strs_one (l : List ByteArray) : ∀ u ∈ strs l, u.oneCell' = true := fun u hu => by
  obtain ⟨s, _, rfl⟩ := List.mem_map.1 hu
  rfl
theorem cntB_zero {l : List ByteArray} {x : ByteArray} : ((cntB l x : Nat) : Int) = 0 ↔ l.any (fun y => decide (y = x)) = false := by
  unfold cntB
  rw [List.any_eq_false]
  constructor
  · intro h y hy
    have h2 : l.countP (fun y => decide (y = x)) = 0 := by exact_mod_cast h
    exact List.countP_eq_zero.1 h2 y hy
  · intro h
    have : l.countP (fun y => decide (y = x)) = 0 := List.countP_eq_zero.2 h
    exact_mod_cast this
theorem usdN_size {rs : List Rul} (h : rulE rs = 0) (bs : List (List ByteArray)) (us : List (List Rdn)) (k : Nat) : ∀ x ∈ usdN rs bs us k, x.size ≤ 140737488355328 := fun x hx => by
  unfold usdN at hx
  obtain ⟨l, hl, hx⟩ := List.mem_flatten.1 hx
  obtain ⟨i, _, rfl⟩ := List.mem_map.1 hl
  exact unN_size h _ _ x hx
set_option maxRecDepth 100000 in
set_option maxHeartbeats 4000000 in
theorem rUnused_sat (lv bv uv : Value) (rs : List Rul) (bs : List (List ByteArray)) (us : List (List Rdn)) (w : World) (hR : Ruls w lv rs) (hB : Wtb w bv bs) (hU : Unzs w uv us) (ht : TbL w) (hlen : ∀ u ∈ us, u.length ≤ 100000) :
    Sat Tryz.prog 22 [lv, bv, uv] w (UnuR rs bs us) := by
  have hC := fun w1 (h : Below w.heap.size w w1) => rCheckR_sat lv rs w1 (hR.below h) (ht.below h)
  have hUt := fun (bv a1 a2 u : Value) (b : List ByteArray) (l : List Rdn) w1 (h : Below w.heap.size w w1) (hb : Strs w bv b) (hl : Rdns w u l) => rUnit_sat lv bv a1 a2 u rs b l w1 (hR.below h) (hb.below h) (hl.below h) (ht.below h)
  obtain ⟨gr, hSr, hEr, _⟩ := hR
  obtain ⟨hrb, ra, rc, rfl, _⟩ := id hSr
  obtain ⟨gb, hSb, hEb⟩ := hB
  have hbb := hSb.bound
  obtain ⟨ba, bc, rfl, _⟩ := hSb.out
  obtain ⟨gu, hSu, hEu⟩ := hU
  obtain ⟨hub, ua, uc, rfl, _⟩ := id hSu
  have hbad : ∀ e, unuE rs bs us = e → e ≠ 0 → UnuR rs bs us (.tuple #[.slice none 0 0, .int .i64 e]) [.row 9 1 (.slice none 0 0) 0 []] := fun e he hz => ⟨_, by rw [he], by unfold unuL; rw [if_neg (by rw [he]; exact hz)]; rfl⟩
  have hE4 : 4096 < us.length → unuE rs bs us = 4 := fun h => if_pos h
  have hE1 : us.length ≤ 4096 → ¬(rulE rs = 0 ∧ bs.all wdsB = true ∧ us.all (fun u => u.all rdgB) = true) → unuE rs bs us = 1 := fun h1 h2 => by
    unfold unuE; rw [if_neg (by omega), if_neg h2]
  have hE9 : us.length ≤ 4096 → (rulE rs = 0 ∧ bs.all wdsB = true ∧ us.all (fun u => u.all rdgB) = true) → bs.length ≠ us.length → unuE rs bs us = 9 := fun h1 h2 h3 => by
    unfold unuE; rw [if_neg (by omega), if_pos h2, if_neg h3]
  by_cases h4096 : 4096 < us.length
  · refine SatL.of 111 [6, 7] Tryz.func22 (by kernel_rfl) (by kernel_rfl) rfl rfl rfl rfl ?_
    repeat' (first|(apply OK_seq)|(apply thenQ_n)|(apply OK_region)|(apply OKx_nilK)|(apply thenQ_r)|(apply OK_condT;exact rfl)|(apply OK_ret)|(apply OKx_move;(conv=>lhs;whnf)<;>exact rfl)|(apply OKx_assign;(conv=>lhs;whnf)<;>exact rfl)|(apply OKx_len;exact rfl)|(apply OKx_gtr;exact rfl;exact rfl;all_goals (intro _; try (exfalso;omega))))
    all_goals (try (exfalso;omega))
    refine bodyQ_r2 (by ((conv=>lhs;whnf)<;>exact rfl)) (by ((conv=>lhs;whnf)<;>exact rfl)) ?_
    exact ⟨_, Ent.mk fun w1 h1 => (h1.none).nil _ _, hbad _ (hE4 h4096) (by decide)⟩
  by_cases hr0 : rulE rs = 0
  rotate_left
  · generalize hre : rulE rs = e at hC
    refine SatL.of 111 [6, 7] Tryz.func22 (by kernel_rfl) (by kernel_rfl) rfl rfl rfl rfl ?_
    repeat' (first|(apply OK_seq)|(apply thenQ_n)|(apply OK_region)|(apply OKx_gc 45;exact rfl; refine OKx_callV (f := 45) rfl rfl rfl (fun w1 hp => hC w1 hp.below) ?_)|(apply OKx_nilK)|(apply thenQ_r)|(apply OK_condT;exact rfl)|(apply OK_condF;exact rfl)|(apply OK_skip)|(apply OK_ret)|(apply OKx_move;(conv=>lhs;whnf)<;>exact rfl)|(apply OKx_assign;(conv=>lhs;whnf)<;>exact rfl)|(apply OKx_len;exact rfl)|(apply OKx_gtr;exact rfl;exact rfl;all_goals (intro _; try (exfalso;omega)))|(apply OKx_neq;exact rfl;exact rfl;all_goals (intro _; try (exfalso;omega))))
    all_goals (try (exfalso;omega))
    refine bodyQ_r2 (by ((conv=>lhs;whnf)<;>exact rfl)) (by ((conv=>lhs;whnf)<;>exact rfl)) ?_
    exact ⟨_, Ent.mk fun w1 h1 => (h1.none).nil _ _, hbad _ (hE1 (by omega) fun hh => hr0 hh.1) (by decide)⟩
  rw [hr0] at hC
  have hrl := (rulE_zero hr0).1
  refine SatL.of 111 [6, 7] Tryz.func22 (by kernel_rfl) (by kernel_rfl) rfl rfl rfl rfl ?_
  repeat' (first|(apply OK_seq)|(apply thenQ_n)|(apply OK_region)|(apply OKx_gc 45;exact rfl; refine OKx_callV (f := 45) rfl rfl rfl (fun w1 hp => hC w1 hp.below) ?_)|(apply OKx_nilK)|(apply OK_block)|(apply OK_condF;exact rfl)|(apply OK_skip)|(apply OKx_move;(conv=>lhs;whnf)<;>exact rfl)|(apply OKx_assign;(conv=>lhs;whnf)<;>exact rfl)|(apply OKx_len;exact rfl)|(apply OKx_gtr;exact rfl;exact rfl;all_goals (intro _; try (exfalso;omega)))|(apply OKx_neq;exact rfl;exact rfl;all_goals (intro _; try (exfalso;omega))))
  all_goals (try (exfalso;omega))
  refine OK_loop1 8 [6, 7, 8, 23, 24, 25, 26, 27, 28, 29, 30, 31, 32, 33, 34] (fun m v L => ∃ j : Nat, j + m = bs.length ∧ v = .int .i64 (j : Int) ∧ (∀ i, i < j → wdsB (bs.getD i []) = true) ∧ L = []) bs.length _ (Ent.refl _ _) ⟨0, by omega, rfl, fun i hi => absurd hi (by omega), rfl⟩ ?_
  rintro m vj L G ⟨j, hm, rfl, Hb, rfl⟩
  by_cases hj : j < bs.length
  · have hd : bs.getD j [] = bs[j] := getD_lt _ _ _ hj
    have hWj := fun w1 (h : Below w.heap.size w w1) => rwords_sat _ bs[j] w1 ((hEb j hj).below h)
    cases hwj : wdsB bs[j]
    · rw [hwj] at hWj
      repeat' (first|(apply OK_seq)|(apply thenQ_n)|(apply OK_region)|(apply OKx_gi; refine OKx_idxR (i := j) rfl hSb rfl hj ?_; intro pb hpb)|(apply OKx_gl; refine OKx_ldR rfl hpb ?_)|(apply OKx_gc 33;exact rfl; refine OKx_callV (f := 33) rfl rfl rfl (fun w1 hp => hWj w1 hp.below) ?_)|(apply OKx_nilK)|(apply OK_block)|(apply thenQ_r)|(apply blockQ_r)|(apply OK_condT;exact rfl)|(apply OK_skip)|(apply OK_ret)|(apply OKx_move;(conv=>lhs;whnf)<;>exact rfl)|(apply OKx_assign;(conv=>lhs;whnf)<;>exact rfl)|(apply OKx_len;exact rfl)|(apply OKx_lss;exact rfl;exact rfl;all_goals (intro _; try (exfalso;omega)))|(apply OKx_notF;exact rfl))
      all_goals (try (exfalso;omega))
      refine bodyQ_r2 (by ((conv=>lhs;whnf)<;>exact rfl)) (by ((conv=>lhs;whnf)<;>exact rfl)) ?_
      exact ⟨_, Ent.mk fun w1 h1 => (h1.none).nil _ _, hbad _ (hE1 (by omega) fun hh => by
        have := List.all_eq_true.1 hh.2.1 _ (List.getElem_mem hj)
        rw [hwj] at this
        cases this) (by decide)⟩
    · rw [hwj] at hWj
      repeat' (first|(apply OK_seq)|(apply thenQ_n)|(apply OK_region)|(apply OKx_gi; refine OKx_idxR (i := j) rfl hSb rfl hj ?_; intro pb hpb)|(apply OKx_gl; refine OKx_ldR rfl hpb ?_)|(apply OKx_gc 33;exact rfl; refine OKx_callV (f := 33) rfl rfl rfl (fun w1 hp => hWj w1 hp.below) ?_)|(apply OKx_nilK)|(apply OK_block)|(apply blockQ_n)|(apply OK_condT;exact rfl)|(apply OK_condF;exact rfl)|(apply OK_skip)|(apply OKx_move;(conv=>lhs;whnf)<;>exact rfl)|(apply OKx_assign;(conv=>lhs;whnf)<;>exact rfl)|(apply OKx_len;exact rfl)|(apply OKx_lss;exact rfl;exact rfl;all_goals (intro _; try (exfalso;omega)))|(apply OKx_inc;exact rfl;exact rfl;omega)|(apply OKx_notT;exact rfl))
      all_goals (try (exfalso;omega))
      refine ⟨by (repeat' (first | refine agree_upd rfl ?_ | exact agree_over | exact agree_refl _ _ | refine agree_over2 rfl ?_)), m - 1, _, by omega, Ent.refl _ _, ?_⟩
      refine ⟨j + 1, by omega, rfl, fun i hi => ?_, rfl⟩
      by_cases e : i = j
      · subst e; rw [hd]; exact hwj
      · exact Hb i (by omega)
  obtain rfl : j = bs.length := by omega
  have hball : bs.all wdsB = true := by
    rw [List.all_eq_true]
    intro r hr
    obtain ⟨i, hi, rfl⟩ := List.getElem_of_mem hr
    have := Hb i hi
    rwa [getD_lt _ _ _ hi] at this
  repeat' (first|(apply OK_seq)|(apply thenQ_n)|(apply OK_region)|(apply OKx_nilK)|(apply OK_block)|(apply blockQ_s)|(apply thenQ_e)|(apply OK_condF;exact rfl)|(apply OK_exit)|(apply OKx_move;(conv=>lhs;whnf)<;>exact rfl)|(apply OKx_assign;(conv=>lhs;whnf)<;>exact rfl)|(apply OKx_len;exact rfl)|(apply OKx_lss;exact rfl;exact rfl;all_goals (intro _; try (exfalso;omega))))
  all_goals (try (exfalso;omega))
  refine OK_loop1 9 [6, 7, 9, 10, 35, 36, 37, 38, 39, 40, 41, 42, 43, 44, 45, 46, 47, 48, 49, 50, 51, 52, 53, 54, 55, 56, 57, 58, 59, 60] (fun m v L => ∃ j : Nat, j + m = us.length ∧ v = .int .i64 (j : Int) ∧ (∀ i, i < j → (us.getD i []).all rdgB = true) ∧ L = []) us.length _ (Ent.refl _ _) ⟨0, by omega, rfl, fun i hi => absurd hi (by omega), rfl⟩ ?_
  rintro m1 vj L G1 ⟨j, hm1, rfl, Hu, rfl⟩
  by_cases hj : j < us.length
  · have hd : us.getD j [] = us[j] := getD_lt _ _ _ hj
    obtain ⟨a1, a2, rv, hag, hRv⟩ := hEu j hj
    obtain ⟨gx, hSx, hEx⟩ := hRv
    obtain ⟨hxb, xa, xc, rfl, _⟩ := id hSx
    have hag2 := Value.agg.inj hag
    simp only [Array.mk.injEq, List.cons.injEq, and_true] at hag2
    obtain ⟨f0, f1, f2⟩ := hag2
    repeat' (first|(apply OK_seq)|(apply thenQ_n)|(apply OK_region)|(apply OKx_nilK)|(apply OK_block)|(apply OK_condT;exact rfl)|(apply OK_skip)|(apply OKx_move;(conv=>lhs;whnf)<;>exact rfl)|(apply OKx_assign;(conv=>lhs;whnf)<;>exact rfl)|(apply OKx_len;exact rfl)|(apply OKx_lss;exact rfl;exact rfl;all_goals (intro _; try (exfalso;omega))))
    all_goals (try (exfalso;omega))
    refine OK_loop1 10 [6, 7, 10, 41, 42, 43, 44, 45, 46, 47, 48, 49, 50, 51, 52, 53, 54, 55, 56, 57, 58, 59, 60] (fun m2 v L => ∃ k : Nat, k + m2 = us[j].length ∧ v = .int .i64 (k : Int) ∧ (∀ i, i < k → rdgB (us[j].getD i default) = true) ∧ L = []) us[j].length _ (Ent.refl _ _) ⟨0, by omega, rfl, fun i hi => absurd hi (by omega), rfl⟩ ?_
    rintro m2 vk L G2 ⟨k, hm2, rfl, Hk, rfl⟩
    by_cases hk : k < us[j].length
    · have hdk : us[j].getD k default = us[j][k] := getD_lt _ _ _ hk
      have hG := fun w1 (h : Below w.heap.size w w1) => rright27_sat _ us[j][k] w1 ((hEx k hk).below h)
      cases hg : rdgB us[j][k]
      · rw [hg] at hG
        repeat' (first|(apply OK_seq)|(apply thenQ_n)|(apply OK_region)|(apply OKx_gi; refine OKx_idxR2 (i := j) rfl hSu rfl hj ?_; intro pp hpp)|(apply OKx_gi; refine OKx_idxR2 (i := k) rfl hSx rfl hk ?_; intro px hpx)|(refine OKx_fldR (off := 2) rfl hpp (by decide) ?_; rw [f2]; intro pq hpq)|(apply OKx_gl; refine OKx_ldR rfl hpq ?_)|(apply OKx_gl; refine OKx_ldRA rfl hpx ?_)|(apply OKx_gc 34;exact rfl; refine OKx_callV (f := 34) rfl rfl rfl (fun w1 hp => hG w1 hp.below) ?_)|(apply OKx_nilK)|(apply OK_block)|(apply thenQ_r)|(apply blockQ_r)|(apply OK_condT;exact rfl)|(apply OK_skip)|(apply OK_ret)|(apply OKx_move;(conv=>lhs;whnf)<;>exact rfl)|(apply OKx_assign;(conv=>lhs;whnf)<;>exact rfl)|(apply OKx_len;exact rfl)|(apply OKx_lss;exact rfl;exact rfl;all_goals (intro _; try (exfalso;omega)))|(apply OKx_notF;exact rfl))
        all_goals (try (exfalso;omega))
        refine bodyQ_r2 (by ((conv=>lhs;whnf)<;>exact rfl)) (by ((conv=>lhs;whnf)<;>exact rfl)) ?_
        exact ⟨_, Ent.mk fun w1 h1 => (h1.none).nil _ _, hbad _ (hE1 (by omega) fun hh => by
          have := List.all_eq_true.1 hh.2.2 _ (List.getElem_mem hj)
          have := List.all_eq_true.1 this _ (List.getElem_mem hk)
          rw [hg] at this
          cases this) (by decide)⟩
      · rw [hg] at hG
        repeat' (first|(apply OK_seq)|(apply thenQ_n)|(apply OK_region)|(apply OKx_gi; refine OKx_idxR2 (i := j) rfl hSu rfl hj ?_; intro pp hpp)|(apply OKx_gi; refine OKx_idxR2 (i := k) rfl hSx rfl hk ?_; intro px hpx)|(refine OKx_fldR (off := 2) rfl hpp (by decide) ?_; rw [f2]; intro pq hpq)|(apply OKx_gl; refine OKx_ldR rfl hpq ?_)|(apply OKx_gl; refine OKx_ldRA rfl hpx ?_)|(apply OKx_gc 34;exact rfl; refine OKx_callV (f := 34) rfl rfl rfl (fun w1 hp => hG w1 hp.below) ?_)|(apply OKx_nilK)|(apply OK_block)|(apply blockQ_n)|(apply OK_condT;exact rfl)|(apply OK_condF;exact rfl)|(apply OK_skip)|(apply OKx_move;(conv=>lhs;whnf)<;>exact rfl)|(apply OKx_assign;(conv=>lhs;whnf)<;>exact rfl)|(apply OKx_len;exact rfl)|(apply OKx_lss;exact rfl;exact rfl;all_goals (intro _; try (exfalso;omega)))|(apply OKx_inc;exact rfl;exact rfl;omega)|(apply OKx_notT;exact rfl))
        all_goals (try (exfalso;omega))
        refine ⟨by (repeat' (first | refine agree_upd rfl ?_ | exact agree_over | exact agree_refl _ _ | refine agree_over2 rfl ?_)), m2 - 1, _, by omega, Ent.refl _ _, ?_⟩
        refine ⟨k + 1, by omega, rfl, fun i hi => ?_, rfl⟩
        by_cases e : i = k
        · subst e; rw [hdk]; exact hg
        · exact Hk i (by omega)
    · obtain rfl : k = us[j].length := by omega
      repeat' (first|(apply OK_seq)|(apply thenQ_n)|(apply OK_region)|(apply OKx_gi; refine OKx_idxR2 (i := j) rfl hSu rfl hj ?_; intro pp hpp)|(refine OKx_fldR (off := 2) rfl hpp (by decide) ?_; rw [f2]; intro pq hpq)|(apply OKx_gl; refine OKx_ldR rfl hpq ?_)|(apply OKx_nilK)|(apply blockQ_n)|(apply blockQ_s)|(apply thenQ_e)|(apply OK_condF;exact rfl)|(apply OK_exit)|(apply OKx_move;(conv=>lhs;whnf)<;>exact rfl)|(apply OKx_assign;(conv=>lhs;whnf)<;>exact rfl)|(apply OKx_len;exact rfl)|(apply OKx_lss;exact rfl;exact rfl;all_goals (intro _; try (exfalso;omega)))|(apply OKx_inc;exact rfl;exact rfl;omega))
      all_goals (try (exfalso;omega))
      refine ⟨by (repeat' (first | refine agree_upd rfl ?_ | exact agree_over | exact agree_refl _ _ | refine agree_over2 rfl ?_)), m1 - 1, _, by omega, Ent.refl _ _, ?_⟩
      refine ⟨j + 1, by omega, rfl, fun i hi => ?_, rfl⟩
      by_cases e : i = j
      · subst e
        rw [hd, List.all_eq_true]
        intro r hr
        obtain ⟨q, hq, rfl⟩ := List.getElem_of_mem hr
        have := Hk q hq
        rwa [getD_lt _ _ _ hq] at this
      · exact Hu i (by omega)
  obtain rfl : j = us.length := by omega
  have huall : us.all (fun u => u.all rdgB) = true := by
    rw [List.all_eq_true]
    intro r hr
    obtain ⟨i, hi, rfl⟩ := List.getElem_of_mem hr
    have := Hu i hi
    rwa [getD_lt _ _ _ hi] at this
  by_cases hle : bs.length = us.length
  rotate_left
  · repeat' (first|(apply OK_seq)|(apply thenQ_n)|(apply OK_region)|(apply OKx_nilK)|(apply blockQ_s)|(apply thenQ_e)|(apply thenQ_r)|(apply OK_condT;exact rfl)|(apply OK_condF;exact rfl)|(apply OK_exit)|(apply OK_ret)|(apply OKx_move;(conv=>lhs;whnf)<;>exact rfl)|(apply OKx_assign;(conv=>lhs;whnf)<;>exact rfl)|(apply OKx_len;exact rfl)|(apply OKx_lss;exact rfl;exact rfl;all_goals (intro _; try (exfalso;omega)))|(apply OKx_neq;exact rfl;exact rfl;all_goals (intro _; try (exfalso;omega))))
    all_goals (try (exfalso;omega))
    refine bodyQ_r2 (by ((conv=>lhs;whnf)<;>exact rfl)) (by ((conv=>lhs;whnf)<;>exact rfl)) ?_
    exact ⟨_, Ent.mk fun w1 h1 => (h1.none).nil _ _, hbad _ (hE9 (by omega) ⟨hr0, hball, huall⟩ hle) (by decide)⟩
  have e0 : unuE rs bs us = 0 := by
    unfold unuE
    rw [if_neg (by omega), if_pos ⟨hr0, hball, huall⟩, if_pos hle]
  unfold UnuR
  rw [e0, show unuL rs bs us = nseL (usdN rs bs us us.length) (namL rs) from if_pos e0]
  have hul := usd_len rs bs us 100000 hlen
  have hul2 := fun k (hk : k ≤ us.length) => Nat.le_trans (hul k hk) (Nat.mul_le_mul_right 100000 (Nat.le_trans hk (show us.length ≤ 4096 by omega)))
  repeat' (first|(apply OK_seq)|(apply thenQ_n)|(apply OK_region)|(apply OKx_nilK)|(apply OK_block)|(apply blockQ_s)|(apply thenQ_e)|(apply OK_condF;exact rfl)|(apply OK_skip)|(apply OK_exit)|(apply OKx_move;(conv=>lhs;whnf)<;>exact rfl)|(apply OKx_assign;(conv=>lhs;whnf)<;>exact rfl)|(apply OKx_len;exact rfl)|(apply OKx_lss;exact rfl;exact rfl;all_goals (intro _; try (exfalso;omega)))|(apply OKx_neq;exact rfl;exact rfl;all_goals (intro _; try (exfalso;omega))))
  all_goals (try (exfalso;omega))
  refine OK_loop2 11 12 [11, 12, 13, 14, 66, 67, 68, 69, 70, 71, 72, 73, 74, 75, 76, 77, 78, 79, 80, 81, 82, 83, 84, 85, 86, 87] (fun m v11 v12 L => ∃ k : Nat, k + m = us.length ∧ v12 = .int .i64 (k : Int) ∧ L = [.row 9 1 v11 (usdN rs bs us k).length (strs (usdN rs bs us k))]) us.length _ (Ent.mk fun w1 h1 => h1.nil _ _) ⟨0, by omega, rfl, rfl⟩ ?_
  rintro m3 v11 v12 L G3 ⟨k, hm3, rfl, rfl⟩
  by_cases hk : k < us.length
  · obtain ⟨a1, a2, rv, hag, hRv⟩ := hEu k hk
    have hag2 := Value.agg.inj hag
    simp only [Array.mk.injEq, List.cons.injEq, and_true] at hag2
    obtain ⟨f0, f1, f2⟩ := hag2
    have hbd : bs.getD k [] = bs[k]'(by omega) := getD_lt _ _ _ (by omega)
    have hud : us.getD k [] = us[k] := getD_lt _ _ _ hk
    have hstk := usdN_step rs bs us k
    have hulk1 := hul2 (k + 1) (by omega)
    rw [hstk, List.length_append] at hulk1
    rw [hbd, hud] at hstk hulk1
    have e1 : untL rs (bs[k]'(by omega)) us[k] = unN rs (bs[k]'(by omega)) us[k] := if_pos (untE_zero.2 ⟨hr0, List.all_eq_true.1 hball _ (List.getElem_mem _), List.all_eq_true.1 huall _ (List.getElem_mem _)⟩)
    have hunk := fun w1 (h : Below w.heap.size w w1) => hUt _ (.int .i64 a1) (.int .i64 a2) _ (bs[k]'(by omega)) us[k] w1 h (hEb k (by omega)) hRv (by have := hlen _ (List.getElem_mem hk);omega)
    unfold UntR at hunk
    rw [e1, ← f0, ← f1, ← f2] at hunk
    generalize unN rs (bs[k]'(by omega)) us[k] = N at hunk hstk hulk1
    have hss : strs (usdN rs bs us k ++ N) = strs (usdN rs bs us k) ++ strs N := by unfold strs; rw [List.map_append]
    have hsl : (strs N).length = N.length := List.length_map _
    repeat' (first|(apply OK_seq)|(apply thenQ_n)|(apply OK_region)|(apply OKx_gi; refine OKx_idxR (i := k) rfl hSb rfl (by omega) ?_; intro pb hpb)|(apply OKx_gl; refine OKx_ldR rfl hpb ?_)|(apply OKx_gi; refine OKx_idxR2 (i := k) rfl hSu rfl hk ?_; intro pp hpp)|(apply OKx_gl; refine OKx_ldRA rfl hpp ?_)|(apply OKx_gc 17;exact rfl; refine OKx_call (f := 17) rfl rfl (fun w1 hp => hunk w1 hp.below) ?_; rintro _ _ ⟨v13, rfl, rfl⟩; rw [List.cons_append, List.nil_append])|(apply OKx_gb; refine OKx_appRowN 1 0 rfl rfl rfl rfl hsl (strs_one N) (by omega) (by omega) ?_; intro v15)|(refine OK_rid 24 ?_; refine OK_pureAny 15 6 [0, 1, 2, 3, 4, 5, 6, 7, 8] [.row 9 1 v11 (usdN rs bs us k).length (strs (usdN rs bs us k))] (id := 24) (by kernel_rfl) (by kernel_rfl) (by kernel_rfl) (by kernel_rfl) (by kernel_rfl) (by kernel_rfl) (by exact Ent.pick [0] rfl) (by ((try simp only [pickO, nthO, List.cons_append, List.nil_append]) <;> exact rfl)) ?_)|(apply OKx_nilK)|(apply OK_block)|(apply blockQ_n)|(apply OK_condT;exact rfl)|(apply OK_skip)|(apply OKx_move;(conv=>lhs;whnf)<;>exact rfl)|(apply OKx_assign;(conv=>lhs;whnf)<;>exact rfl)|(apply OKx_len;exact rfl)|(apply OKx_lss;exact rfl;exact rfl;all_goals (intro _; try (exfalso;omega)))|(apply OKx_inc;exact rfl;exact rfl;omega)|(apply OKx_extract;exact rfl;(conv=>lhs;whnf)<;>exact rfl)|(refine OKc_step1 (S := [0, 1, 2, 3, 4, 5, 6, 7, 8]) (i1 := 9) (S1 := [0, 1, 2, 3, 4, 5, 6, 7, 8, 9]) (by first | exact Ent.refl _ _ | exact Ent.nil | exact Ent.pick [0] rfl | exact Ent.pick [1] rfl | exact Ent.pick [2] rfl | exact Ent.pick [3] rfl) (by kernel_rfl) (by kernel_rfl) rfl ?_)|(refine OKc_pure (S := [0, 1, 2, 3, 4, 5, 6, 7, 8, 9]) (i := 10) (S1 := [0, 1, 2, 3, 4, 5, 6, 7, 8, 9, 10]) (by kernel_rfl) (by kernel_rfl) rfl ?_)|(refine OKc_pure (S := [0, 1, 2, 3, 4, 5, 6, 7, 8, 9, 10]) (i := 11) (S1 := [0, 1, 2, 3, 4, 5, 6, 7, 8, 9, 10, 11]) (by kernel_rfl) (by kernel_rfl) rfl ?_)|(refine OKc_pure (S := [0, 1, 2, 3, 4, 5, 6, 7, 8, 9, 10, 11]) (i := 12) (S1 := [0, 1, 2, 3, 4, 5, 6, 7, 8, 9, 10, 11, 12]) (by kernel_rfl) (by kernel_rfl) rfl ?_)|(refine OKc_pure (S := [0, 1, 2, 3, 4, 5, 6, 7, 8, 9, 10, 11, 12]) (i := 13) (S1 := [0, 1, 2, 3, 4, 5, 6, 7, 8, 9, 10, 11, 12, 13]) (by kernel_rfl) (by kernel_rfl) rfl ?_)|(refine OKc_pure (S := [0, 1, 2, 3, 4, 5, 6, 7, 8, 9, 10, 11, 12, 13]) (i := 14) (S1 := [0, 1, 2, 3, 4, 5, 6, 7, 8, 9, 10, 11, 12, 13, 14]) (by kernel_rfl) (by kernel_rfl) rfl ?_)|(refine OKc_end (S := [0, 1, 2, 3, 4, 5, 6, 7, 8, 9, 10, 11, 12, 13, 14]) (by kernel_rfl) (by first | exact Ent.refl _ _ | exact Ent.nil | exact Ent.pick [0] rfl | exact Ent.pick [1] rfl | exact Ent.pick [2] rfl | exact Ent.pick [3] rfl) ?_))
    all_goals (try (exfalso;omega))
    all_goals
      refine ⟨by (repeat' (first | refine agree_upd rfl ?_ | exact agree_over | exact agree_refl _ _ | refine agree_over2 rfl ?_)), m3 - 1, _, by omega, Ent.pick [1] rfl, ?_⟩
      exact ⟨k + 1, by omega, rfl, by rw [hstk, hss, List.length_append] <;> rfl⟩
  obtain rfl : k = us.length := by omega
  have hus := usdN_size hr0 bs us us.length
  have hul3 := hul2 us.length (Nat.le_refl _)
  generalize usdN rs bs us us.length = U at hus hul3
  repeat' (first|(apply OK_seq)|(apply thenQ_n)|(apply OK_region)|(apply OKx_nilK)|(apply OK_block)|(apply blockQ_s)|(apply thenQ_e)|(apply OK_condF;exact rfl)|(apply OK_exit)|(apply OKx_move;(conv=>lhs;whnf)<;>exact rfl)|(apply OKx_assign;(conv=>lhs;whnf)<;>exact rfl)|(apply OKx_len;exact rfl)|(apply OKx_lss;exact rfl;exact rfl;all_goals (intro _; try (exfalso;omega))))
  all_goals (try (exfalso;omega))
  refine OK_loop2 15 16 [15, 16, 88, 89, 90, 91, 92, 93, 94, 95, 96, 97, 98, 99, 100, 101, 102, 103, 104, 105, 106, 107, 108, 109] (fun m2 v15 v16 L => ∃ j : Nat, j + m2 = rs.length ∧ v16 = .int .i64 (j : Int) ∧ L = [.row 9 1 v15 (nseL U (namL (rs.take j))).length (strs (nseL U (namL (rs.take j)))), .row 9 1 v11 U.length (strs U)]) rs.length _ (Ent.mk fun w1 h1 => h1.nil _ _) ⟨0, by omega, rfl, rfl⟩ ?_
  rintro m2 v15 v16 L G2 ⟨j, hm2, rfl, rfl⟩
  by_cases hj : j < rs.length
  · obtain ⟨c1, c2, c3, c4, hag, hX, hnz⟩ := hEr j hj
    have hag2 := Value.agg.inj hag
    simp only [Array.mk.injEq, List.cons.injEq, and_true] at hag2
    obtain ⟨e1, _⟩ := hag2
    have hnm : namL (rs.take (j + 1)) = namL (rs.take j) ++ [rs[j].name] := by
      unfold namL
      rw [List.take_succ_eq_append_getElem hj, List.map_append]
      rfl
    have hsn := nse_snoc U (namL (rs.take j)) rs[j].name
    rw [← hnm] at hsn
    have hnl2 := nse_le U (namL (rs.take j))
    rw [namL_len, List.length_take] at hnl2
    have hss := strs_snoc27 (nseL U (namL (rs.take j))) rs[j].name
    have hcz := cntB_zero (l := U) (x := rs[j].name)
    have hct := fun w1 h => count_sat v11 U rs[j].name w1 h
    by_cases hz : U.any (fun y => decide (y = rs[j].name)) = false
    · rw [hz, if_neg (by decide)] at hsn
      rw [hcz.2 hz] at hct
      repeat' (first|(apply OK_seq)|(apply thenQ_n)|(apply OK_region)|(apply OKx_gi; refine OKx_idxR2 (i := j) rfl hSr rfl hj ?_; intro pp hpp)|(refine OKx_fldR (off := 0) rfl hpp (by decide) ?_; rw [e1]; intro pq hpq)|(apply OKx_gl; refine OKx_ldR rfl hpq ?_)|(apply OKx_gc 51;exact rfl; refine OKx_callV (f := 51) rfl rfl rfl (fun w1 hp => hct w1 (hp.strs 1 rfl (by omega) hus)) ?_)|(apply OKx_gb; refine OKx_append1 1 0 rfl rfl rfl rfl rfl (by omega) (by omega) ?_; intro gr9 cr9)|(apply OKx_nilK)|(apply OK_block)|(apply blockQ_n)|(apply OK_condT;exact rfl)|(apply OK_skip)|(apply OKx_move;(conv=>lhs;whnf)<;>exact rfl)|(apply OKx_assign;(conv=>lhs;whnf)<;>exact rfl)|(apply OKx_len;exact rfl)|(apply OKx_lss;exact rfl;exact rfl;all_goals (intro _; try (exfalso;omega)))|(apply OKx_eql;exact rfl;exact rfl;all_goals (intro _; try (exfalso;omega)))|(apply OKx_inc;exact rfl;exact rfl;omega)|(apply OKx_slit1;(conv=>lhs;whnf)<;>exact rfl;exact rfl;intro _))
      all_goals (try (exfalso;omega))
      refine ⟨by (repeat' (first | refine agree_upd rfl ?_ | exact agree_over | exact agree_refl _ _ | refine agree_over2 rfl ?_)), m2 - 1, _, by omega, Ent.pick [1, 2] rfl, ?_⟩
      exact ⟨j + 1, by omega, rfl, by rw [hsn, List.length_append, hss] <;> rfl⟩
    · have hz2 : U.any (fun y => decide (y = rs[j].name)) = true := by simpa using hz
      rw [hz2, if_pos rfl] at hsn
      have hnz0 : ¬ ((cntB U rs[j].name : Nat) : Int) = 0 := fun h => hz (hcz.1 h)
      generalize ((cntB U rs[j].name : Nat) : Int) = z at hct hnz0
      repeat' (first|(apply OK_seq)|(apply thenQ_n)|(apply OK_region)|(apply OKx_gi; refine OKx_idxR2 (i := j) rfl hSr rfl hj ?_; intro pp hpp)|(refine OKx_fldR (off := 0) rfl hpp (by decide) ?_; rw [e1]; intro pq hpq)|(apply OKx_gl; refine OKx_ldR rfl hpq ?_)|(apply OKx_gc 51;exact rfl; refine OKx_callV (f := 51) rfl rfl rfl (fun w1 hp => hct w1 (hp.strs 1 rfl (by omega) hus)) ?_)|(apply OKx_nilK)|(apply OK_block)|(apply blockQ_n)|(apply OK_condT;exact rfl)|(apply OK_condF;exact rfl)|(apply OK_skip)|(apply OKx_move;(conv=>lhs;whnf)<;>exact rfl)|(apply OKx_assign;(conv=>lhs;whnf)<;>exact rfl)|(apply OKx_len;exact rfl)|(apply OKx_lss;exact rfl;exact rfl;all_goals (intro _; try (exfalso;omega)))|(apply OKx_eql;exact rfl;exact rfl;all_goals (intro _; try (exfalso;omega)))|(apply OKx_inc;exact rfl;exact rfl;omega))
      all_goals (try (exfalso;omega))
      refine ⟨by (repeat' (first | refine agree_upd rfl ?_ | exact agree_over | exact agree_refl _ _ | refine agree_over2 rfl ?_)), m2 - 1, _, by omega, Ent.refl _ _, ?_⟩
      exact ⟨j + 1, by omega, rfl, by rw [hsn] <;> rfl⟩
  obtain rfl : j = rs.length := by omega
  rw [List.take_length]
  repeat' (first|(apply OK_seq)|(apply thenQ_n)|(apply OK_region)|(apply OKx_nilK)|(apply blockQ_s)|(apply thenQ_e)|(apply OK_condF;exact rfl)|(apply OK_exit)|(apply OK_ret)|(apply OKx_move;(conv=>lhs;whnf)<;>exact rfl)|(apply OKx_assign;(conv=>lhs;whnf)<;>exact rfl)|(apply OKx_len;exact rfl)|(apply OKx_lss;exact rfl;exact rfl;all_goals (intro _; try (exfalso;omega))))
  all_goals (try (exfalso;omega))
  refine bodyQ_r2 (by ((conv=>lhs;whnf)<;>exact rfl)) (by ((conv=>lhs;whnf)<;>exact rfl)) ?_
  exact ⟨_, Ent.pick [0] rfl, _, rfl, rfl⟩
end Go.Proofs.YthnlnffmmioapaaGreatDoor
