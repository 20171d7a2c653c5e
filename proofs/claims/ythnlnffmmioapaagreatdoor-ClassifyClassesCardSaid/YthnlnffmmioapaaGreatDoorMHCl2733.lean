/-
  Part 33 of the proof: Lc27, Open, OpenS. No statement of the seat is proved here.
-/
import Derived.Test.YthnlnffmmioapaaGreatDoorMHCl2732
import Derived.ProofKit
import Derived.SizedLaws
import Derived.Deep.Strs
import Derived.ChangeMaps5
namespace Go.Proofs.YthnlnffmmioapaaGreatDoor
open Go.RowKit
theorem namL_size {w : World} {v : Value} {rs : List Rul} (h : Ruls w v rs) : ∀ s ∈ namL rs, s.size ≤ 140737488355328 := fun s hs => by
  obtain ⟨g, _, hE, _⟩ := h
  obtain ⟨r, hr, rfl⟩ := List.mem_map.1 hs
  obtain ⟨j, hj, rfl⟩ := List.getElem_of_mem hr
  obtain ⟨_, _, _, _, hn⟩ := (hE j hj).lit
  exact hn
theorem unuL_sub (rs : List Rul) (bs : List (List ByteArray)) (us : List (List Rdn)) : ∀ s ∈ unuL rs bs us, s ∈ namL rs := fun s hs => by
  unfold unuL at hs
  split at hs
  · exact (List.mem_filter.1 hs).1
  · cases hs
theorem unuL_len (rs : List Rul) (bs : List (List ByteArray)) (us : List (List Rdn)) : (unuL rs bs us).length ≤ rs.length := by
  unfold unuL
  split
  · have := nse_le (usdN rs bs us us.length) (namL rs)
    rw [namL_len] at this
    exact this
  · simp
set_option maxRecDepth 100000 in
set_option maxHeartbeats 4000000 in
theorem ClassifyClasses_sat (lv bv uv : Value) (rs : List Rul) (bs : List (List ByteArray)) (us : List (List Rdn)) (w : World) (hR : Ruls w lv rs) (hB : Wtb w bv bs) (hUc : UnzC w uv us) (hkd : KdL w) (hkf : KfL w) (ht : TbL w) :
    SatV Tryz.prog 4 [lv, bv, uv] w (.bool true) := by
  have hA := fun w1 (h : Below w.heap.size w w1) => awake27_sat w1 (hkd.below h) (hkf.below h) (ht.below h)
  have hGr := fun w1 (h : Below w.heap.size w w1) => greatL_sat lv rs w1 (hR.below h)
  have hGb := fun w1 (h : Below w.heap.size w w1) => greatB_sat bv bs w1 (hB.below h)
  have hGu := fun w1 (h : Below w.heap.size w w1) => greatUnits_sat uv us w1 (hUc.unz.below h)
  have hns := namL_size hR
  have hU := fun (b : List ByteArray) (l : List Rdn) (bv a1 a2 u : Value) w1 (h : Below w.heap.size w w1) (hb : Strs w bv b) (hl : Rdns w u l) => Unit_sat lv bv a1 a2 u rs b l w1 (hR.below h) (hb.below h) (hl.below h) (hkd.below h) (hkf.below h) (ht.below h)
  have hV := fun (b : List ByteArray) (l : List Rdn) (bv a1 a2 u : Value) w1 (h : Below w.heap.size w w1) (hb : Strs w bv b) (hl : Rdns w u l) => rUnit_sat lv bv a1 a2 u rs b l w1 (hR.below h) (hb.below h) (hl.below h) (ht.below h)
  have hC := fun (b : List ByteArray) (r : Rdn) (bv rv : Value) w1 (h : Below w.heap.size w w1) (hb : Strs w bv b) (hr : RdnV w r rv) => Class_sat lv bv rv rs b r w1 (hR.below h) (hb.below h) (hr.below h) (hkd.below h) (hkf.below h) (ht.below h)
  have hD := fun (b : List ByteArray) (r : Rdn) (bv rv : Value) w1 (h : Below w.heap.size w w1) (hb : Strs w bv b) (hr : RdnV w r rv) => rClass_sat lv bv rv rs b r w1 (hR.below h) (hb.below h) (hr.below h) (ht.below h)
  have hM := fun w1 (h : Below w.heap.size w w1) => Unused_sat lv bv uv rs bs us w1 (hR.below h) (hB.below h) (hUc.unz.below h) (hkd.below h) (hkf.below h) (ht.below h)
  have hN := fun w1 (h : Below w.heap.size w w1) => rUnused_sat lv bv uv rs bs us w1 (hR.below h) (hB.below h) (hUc.unz.below h) (ht.below h)
  have hP := fun w1 (h : Below w.heap.size w w1) => Names_sat lv rs w1 (hR.below h)
  have hQ := fun w1 (h : Below w.heap.size w w1) => rNames_sat lv rs w1 (hR.below h)
  obtain ⟨gr, hSr, _⟩ := hR
  obtain ⟨hrb, ra, rc, rfl, _⟩ := id hSr
  obtain ⟨gb, hSb, hEb⟩ := hB
  have hbb := hSb.bound
  obtain ⟨ba, bc, rfl, _⟩ := hSb.out
  obtain ⟨gu, hSu, hEu, hcu⟩ := hUc
  obtain ⟨hub, ua, uc, rfl, hcell⟩ := id hSu
  have huc := hcu _ _ _ rfl
  by_cases h0 : grtL rs = false ∧ bs.length ≤ 4 ∧ bs.any grtW = false ∧ grtU us = false
  rotate_left
  · clear hU hV hC hD hM hN hP hQ
    refine SatL.of 149 [6] Tryz.func4 (by kernel_rfl) (by kernel_rfl) rfl rfl rfl rfl ?_
    repeat' (first|(apply OK_seq)|(apply thenQ_n)|(apply OK_region)|(apply OKx_gc 13;exact rfl; refine OKx_callB (f := 13) rfl rfl rfl (fun w1 hp => hGr w1 hp.below) ?_ ?_ <;> intro q1)|(apply OKx_gc 14;exact rfl; refine OKx_callB (f := 14) rfl rfl rfl (fun w1 hp => hGb w1 hp.below) ?_ ?_ <;> intro q3)|(apply OKx_gc 15;exact rfl; refine OKx_callB (f := 15) rfl rfl rfl (fun w1 hp => hGu w1 hp.below) ?_ ?_ <;> intro q4)|(apply OKx_gc 8;exact rfl; refine OKx_callV (f := 8) rfl rfl rfl (fun w1 hp => hA w1 hp.below) ?_)|(apply OKx_nilK)|(apply OK_block)|(apply thenQ_r)|(apply OK_condT;exact rfl)|(apply OK_condF;exact rfl)|(apply OK_skip)|(apply OK_ret)|(apply OKx_move;(conv=>lhs;whnf)<;>exact rfl)|(apply OKx_assign;(conv=>lhs;whnf)<;>exact rfl)|(apply OKx_len;exact rfl)|(apply OKx_gtr;exact rfl;exact rfl;all_goals (intro _; try (exfalso;omega)))|(apply OKx_pickT;exact rfl;(conv=>lhs;whnf)<;>exact rfl)|(apply OKx_pickF;exact rfl;(conv=>lhs;whnf)<;>exact rfl)|(apply OKx_guardT;exact rfl;exact rfl)|(apply OKx_guardF;exact rfl;exact rfl))
    all_goals first
      | ((refine bodyQ_r1 (by ((conv=>lhs;whnf)<;>exact rfl)) ?_)
         exact ⟨_, Ent.nil, rfl, rfl⟩)
      | exact absurd ⟨q1, by omega, q3, q4⟩ h0
      | (exfalso;omega)
  obtain ⟨g1, g2, g3, g4⟩ := h0
  obtain ⟨hul, hulen⟩ := grtU_no g4
  have hrl := grtL_no g1
  rw [g1] at hGr
  rw [g3] at hGb
  rw [g4] at hGu
  have hEq := fun va vb (xs : List ByteArray) w1 h1 h2 => equalB_sat va vb xs xs w1 h1 h2
  simp only [decide_true] at hEq
  obtain ⟨n3, hn3⟩ : ∃ n, n = min us.length 3 := ⟨_, rfl⟩
  have hmin3 : min (us.length : Int) 3 = (n3 : Int) := by omega
  have hSu2 : Sl2 w (.slice ua n3 uc) 3 n3 gu := by
    refine ⟨by omega, ua, uc, rfl, ?_⟩
    rcases hcell with h0 | ⟨b0, o0, e0, hc⟩
    · exact .inl (by omega)
    · exact .inr ⟨b0, o0, e0, fun i hi c hc2 => hc i (by omega) c hc2⟩
  refine SatL.of 149 [6] Tryz.func4 (by kernel_rfl) (by kernel_rfl) rfl rfl rfl rfl ?_
  repeat' (first|(apply OK_seq)|(apply thenQ_n)|(apply OK_region)|(apply OKx_gc 13;exact rfl; refine OKx_callV (f := 13) rfl rfl rfl (fun w1 hp => hGr w1 hp.below) ?_)|(apply OKx_gc 14;exact rfl; refine OKx_callV (f := 14) rfl rfl rfl (fun w1 hp => hGb w1 hp.below) ?_)|(apply OKx_gc 15;exact rfl; refine OKx_callV (f := 15) rfl rfl rfl (fun w1 hp => hGu w1 hp.below) ?_)|(apply OKx_nilK)|(apply OK_block)|(apply OK_condF;exact rfl)|(apply OK_skip)|(apply OKx_move;(conv=>lhs;whnf)<;>exact rfl)|(apply OKx_assign;(conv=>lhs;whnf)<;>exact rfl)|(apply OKx_len;exact rfl)|(apply OKx_gtr;exact rfl;exact rfl;all_goals (intro _; try (exfalso;omega)))|(apply OKx_pickF;exact rfl;(conv=>lhs;whnf)<;>exact rfl)|(apply OKx_guardT;exact rfl;exact rfl))
  all_goals (try (exfalso;omega))
  refine OK_loop1 43 [6, 8, 10, 11, 12, 13, 14, 16, 17, 18, 19, 20, 43, 44, 45, 46, 47, 48, 49, 50, 51, 52, 53, 54, 55, 56, 57, 58, 59, 60, 61, 62, 63, 64, 65, 66, 67, 68, 69, 70, 71, 72, 73, 74, 75, 76, 77, 78, 79, 80, 81, 82, 83, 84, 85, 86, 87, 88, 89, 90, 91, 92, 93, 94, 95, 96, 97, 98, 99, 100, 101, 102, 103, 104, 105, 106, 107, 108, 109, 110, 111, 112, 113, 114, 115, 116] (fun m v L => ∃ j : Nat, j + m = bs.length ∧ v = .int .i64 (j : Int) ∧ L = []) bs.length _ (Ent.refl _ _) ⟨0, by omega, rfl, rfl⟩ ?_
  rintro m v' L G ⟨j, hm, rfl, rfl⟩
  by_cases hj : j < bs.length
  · have hbj := hEb j hj
    repeat' (first|(apply OK_seq)|(apply thenQ_n)|(apply OK_region)|(apply OKx_gi; refine OKx_idxR (i := j) rfl hSb rfl hj ?_; intro pb hpb)|(apply OKx_gl; refine OKx_ldR rfl hpb ?_)|(apply OKx_gb; refine OKx_min rfl rfl ?_; rw [hmin3])|(refine OKx_slHq (h := n3) rfl rfl (by omega) ?_)|(apply OKx_nilK)|(apply OK_block)|(apply OK_condT;exact rfl)|(apply OK_skip)|(apply OKx_move;(conv=>lhs;whnf)<;>exact rfl)|(apply OKx_assign;(conv=>lhs;whnf)<;>exact rfl)|(apply OKx_len;exact rfl)|(apply OKx_lss;exact rfl;exact rfl;all_goals (intro _; try (exfalso;omega))))
    all_goals (try (exfalso;omega))
    refine OK_loop1 53 [6, 10, 11, 12, 13, 14, 16, 17, 18, 19, 20, 53, 54, 55, 56, 57, 58, 59, 60, 61, 62, 63, 64, 65, 66, 67, 68, 69, 70, 71, 72, 73, 74, 75, 76, 77, 78, 79, 80, 81, 82, 83, 84, 85, 86, 87, 88, 89, 90, 91, 92, 93, 94, 95, 96, 97, 98, 99, 100, 101, 102, 103, 104, 105, 106, 107, 108, 109, 110, 111, 112, 113, 114, 115] (fun m2 v L => ∃ k : Nat, k + m2 = n3 ∧ v = .int .i64 (k : Int) ∧ L = []) n3 _ (Ent.refl _ _) ⟨0, by omega, rfl, rfl⟩ ?_
    rintro m2 v2 L G2 ⟨k, hm2, rfl, rfl⟩
    by_cases hk : k < n3
    · have hku : k < us.length := by omega
      obtain ⟨a1, a2, xa, xc, hag, hRk, hxc⟩ := hEu k hku
      have heq : ((List.range 3).map (gu k)).toArray = #[.int .i64 a1, .int .i64 a2, .slice xa us[k].length xc] := Value.agg.inj hag
      obtain ⟨gx, hSx, hEx⟩ := id hRk
      obtain ⟨hxb, xa2, xc2, hxe, hxcell⟩ := id hSx
      obtain ⟨rfl, rfl⟩ : xa2 = xa ∧ xc2 = xc := by
        simp only [Value.slice.injEq] at hxe
        exact ⟨hxe.1.symm, hxe.2.2.symm⟩
      have hkl := hulen _ (List.getElem_mem hku)
      have hUk := fun w1 h => hU bs[j] us[k] (gb j) (.int .i64 a1) (.int .i64 a2) _ w1 h hbj hRk (by omega)
      have hVk := fun w1 h => hV bs[j] us[k] (gb j) (.int .i64 a1) (.int .i64 a2) _ w1 h hbj hRk (by omega)
      unfold UntR at hUk hVk
      have hXs := untL_size rs bs[j] us[k]
      have hXl := untL_len rs bs[j] us[k]
      generalize untL rs bs[j] us[k] = X at hUk hVk hXs hXl
      generalize untE rs bs[j] us[k] = e at hUk hVk
      obtain ⟨n6, hn6⟩ : ∃ n, n = min us[k].length 6 := ⟨_, rfl⟩
      have hmin6 : min (us[k].length : Int) 6 = (n6 : Int) := by omega
      have hSx6 : Sl2 w (.slice xa2 n6 xc2) 2 n6 gx := by
        refine ⟨by omega, xa2, xc2, rfl, ?_⟩
        rcases hxcell with h0 | ⟨b0, o0, e0, hc⟩
        · exact .inl (by omega)
        · exact .inr ⟨b0, o0, e0, fun i hi c hc2 => hc i (by omega) c hc2⟩
      repeat' (first|(apply OK_seq)|(apply thenQ_n)|(apply OK_region)|(apply OKx_gi; refine OKx_idxR2 (i := k) rfl hSu2 rfl hk ?_; intro pp hpp)|(apply OKx_gl; refine OKx_ldRA rfl hpp ?_; rw [heq])|(apply OKx_gc 16;exact rfl; refine OKx_call (f := 16) rfl rfl (fun w1 hp => hUk w1 hp.below) ?_; rintro _ _ ⟨v57, rfl, rfl⟩; rw [List.cons_append, List.nil_append])|(apply OKx_gc 17;exact rfl; refine OKx_call (f := 17) rfl rfl (fun w1 hp => hVk w1 hp.below) ?_; rintro _ _ ⟨v64, rfl, rfl⟩; rw [List.cons_append, List.nil_append])|(apply OKx_gc 18;exact rfl; refine OKx_callV (f := 18) rfl rfl rfl (fun w1 hp => hEq _ _ X w1 (hp.strs 1 rfl (by omega) hXs) (hp.strs 0 rfl (by omega) hXs)) ?_)|(apply OKx_gb; refine OKx_min rfl rfl ?_; rw [hmin6])|(refine OKx_slHq (h := n6) rfl rfl (by omega) ?_)|(apply OKx_nilK)|(apply OK_block)|(apply OK_condT;exact rfl)|(apply OK_condF;exact rfl)|(apply OK_skip)|(apply OKx_move;(conv=>lhs;whnf)<;>exact rfl)|(apply OKx_assign;(conv=>lhs;whnf)<;>exact rfl)|(apply OKx_ldB;exact rfl; (apply atP;constructor);exact rfl)|(apply OKx_len;exact rfl)|(apply OKx_lss;exact rfl;exact rfl;all_goals (intro _; try (exfalso;omega)))|(apply OKx_neq;exact rfl;exact rfl;all_goals (intro _; try (exfalso;omega)))|(apply OKx_fldO;exact rfl;exact rfl)|(apply OKx_pickF;exact rfl;(conv=>lhs;whnf)<;>exact rfl)|(apply OKx_guardT;exact rfl;exact rfl)|(apply OKx_notT;exact rfl)|(apply OKx_extract;exact rfl;(conv=>lhs;whnf)<;>exact rfl)|(apply OKx_allocA;intro _)|(apply OKx_ldBA;exact rfl; (apply atP;constructor);exact rfl)|(apply OKx_stBA; kernel_rfl;exact rfl;exact rfl;exact rfl; (apply atP;constructor);exact rfl;exact rfl;exact rfl))
      all_goals (try (exfalso;omega))
      all_goals (try exact absurd rfl (by assumption))
      refine OK_loop1 88 [6, 16, 17, 18, 19, 20, 88, 89, 90, 91, 92, 93, 94, 95, 96, 97, 98, 99, 100, 101, 102, 103, 104, 105, 106, 107, 108, 109, 110, 111, 112, 113, 114] (fun m3 v L => ∃ q : Nat, q + m3 = n6 ∧ v = .int .i64 (q : Int) ∧ L = []) n6 _ Ent.nil ⟨0, by omega, rfl, rfl⟩ ?_
      rintro m3 v3 L G3 ⟨q, hm3, rfl, rfl⟩
      by_cases hq : q < n6
      · have hqx : q < us[k].length := by omega
        have hr := hEx q hqx
        obtain ⟨wv, sv, hag2, hWv, hSv⟩ := id hr
        obtain ⟨wa, wc, rfl, hwl, _⟩ := hWv.at
        obtain ⟨sa, sc, rfl, hsl, _⟩ := hSv.at
        have heq2 : ((List.range 2).map (gx q)).toArray = #[.slice wa us[k][q].words.length wc, .slice sa us[k][q].src.length sc] := Value.agg.inj hag2
        rw [hag2] at hr
        have hCq := fun w1 h => hC bs[j] us[k][q] (gb j) _ w1 h hbj hr
        have hDq := fun w1 h => hD bs[j] us[k][q] (gb j) _ w1 h hbj hr
        generalize claN rs bs[j] us[k][q] = nm at hCq hDq
        generalize claE rs bs[j] us[k][q] = e2 at hCq hDq
        repeat' (first|(apply OK_seq)|(apply thenQ_n)|(apply OK_region)|(apply OKx_gi; refine OKx_idxR2 (i := q) rfl hSx6 rfl hq ?_; intro pp hpp)|(apply OKx_gl; refine OKx_ldRA rfl hpp ?_; rw [heq2])|(apply OKx_gc 19;exact rfl; refine OKx_callV (f := 19) rfl rfl rfl (fun w1 hp => hCq w1 hp.below) ?_)|(apply OKx_gc 20;exact rfl; refine OKx_callV (f := 20) rfl rfl rfl (fun w1 hp => hDq w1 hp.below) ?_)|(apply OKx_nilK)|(apply OK_block)|(apply blockQ_n)|(apply thenQ_r)|(apply blockQ_r)|(apply OK_condT;exact rfl)|(apply OK_condF;exact rfl)|(apply OK_skip)|(apply OK_ret)|(apply OKx_move;(conv=>lhs;whnf)<;>exact rfl)|(apply OKx_assign;(conv=>lhs;whnf)<;>exact rfl)|(apply OKx_lss;exact rfl;exact rfl;all_goals (intro _; try (exfalso;omega)))|(apply OKx_neq;exact rfl;exact rfl;all_goals (intro _; try (exfalso;omega)))|(apply OKx_sneq;exact rfl;exact rfl; all_goals intro _)|(apply OKx_inc;exact rfl;exact rfl;omega)|(apply OKx_pickT;exact rfl;(conv=>lhs;whnf)<;>exact rfl)|(apply OKx_pickF;exact rfl;(conv=>lhs;whnf)<;>exact rfl)|(apply OKx_guardT;exact rfl;exact rfl)|(apply OKx_guardF;exact rfl;exact rfl)|(apply OKx_extract;exact rfl;(conv=>lhs;whnf)<;>exact rfl)|(apply OKx_allocA;intro _)|(apply OKx_ldBA;exact rfl; (apply atP;constructor);exact rfl)|(apply OKx_stBA; kernel_rfl;exact rfl;exact rfl;exact rfl; (apply atP;constructor);exact rfl;exact rfl;exact rfl))
        all_goals (try (exfalso;omega))
        all_goals first
          | exact absurd rfl (by assumption)
          | (refine ⟨by (repeat' (first | refine agree_upd rfl ?_ | exact agree_over | exact agree_refl _ _ | refine agree_over2 rfl ?_)), m3 - 1, _, by omega, Ent.nil, ?_⟩
             exact ⟨q + 1, by omega, rfl, rfl⟩)
      · obtain rfl : q = n6 := by omega
        repeat' (first|(apply OK_seq)|(apply thenQ_n)|(apply OK_region)|(apply OKx_nilK)|(apply blockQ_n)|(apply blockQ_s)|(apply thenQ_e)|(apply OK_condF;exact rfl)|(apply OK_exit)|(apply OKx_move;(conv=>lhs;whnf)<;>exact rfl)|(apply OKx_lss;exact rfl;exact rfl;all_goals (intro _; try (exfalso;omega)))|(apply OKx_inc;exact rfl;exact rfl;omega))
        all_goals (try (exfalso;omega))
        refine ⟨by (repeat' (first | refine agree_upd rfl ?_ | exact agree_over | exact agree_refl _ _ | refine agree_over2 rfl ?_)), m2 - 1, _, by omega, Ent.nil, ?_⟩
        exact ⟨k + 1, by omega, rfl, rfl⟩
    · obtain rfl : k = n3 := by omega
      repeat' (first|(apply OK_seq)|(apply thenQ_n)|(apply OK_region)|(apply OKx_nilK)|(apply blockQ_n)|(apply blockQ_s)|(apply thenQ_e)|(apply OK_condF;exact rfl)|(apply OK_exit)|(apply OKx_move;(conv=>lhs;whnf)<;>exact rfl)|(apply OKx_lss;exact rfl;exact rfl;all_goals (intro _; try (exfalso;omega)))|(apply OKx_inc;exact rfl;exact rfl;omega))
      all_goals (try (exfalso;omega))
      refine ⟨by (repeat' (first | refine agree_upd rfl ?_ | exact agree_over | exact agree_refl _ _ | refine agree_over2 rfl ?_)), m - 1, _, by omega, Ent.nil, ?_⟩
      exact ⟨j + 1, by omega, rfl, rfl⟩
  · obtain rfl : j = bs.length := by omega
    clear hU hV hC hD
    have hMs := fun w1 h => hM w1 h (fun u hu => by have := hulen u hu;omega)
    have hNs := fun w1 h => hN w1 h (fun u hu => by have := hulen u hu;omega)
    unfold UnuR at hMs hNs
    have hXs : ∀ s ∈ unuL rs bs us, s.size ≤ 140737488355328 := fun s hs => hns s (unuL_sub rs bs us s hs)
    have hXl := unuL_len rs bs us
    generalize unuL rs bs us = X at hMs hNs hXs hXl
    generalize unuE rs bs us = e at hMs hNs
    have hPs := fun w1 h => hP w1 h (by omega)
    have hQs := fun w1 h => hQ w1 h (by omega)
    have hYl := namL_len rs
    generalize namL rs = Y at hPs hQs hns hYl
    repeat' (first|(apply OK_seq)|(apply thenQ_n)|(apply OK_region)|(apply OKx_gc 21;exact rfl; refine OKx_call (f := 21) rfl rfl (fun w1 hp => hMs w1 hp.below) ?_; rintro _ _ ⟨v57, rfl, rfl⟩; rw [List.cons_append, List.nil_append])|(apply OKx_gc 22;exact rfl; refine OKx_call (f := 22) rfl rfl (fun w1 hp => hNs w1 hp.below) ?_; rintro _ _ ⟨v64, rfl, rfl⟩; rw [List.cons_append, List.nil_append])|(apply OKx_gc 23;exact rfl; refine OKx_call (f := 23) rfl rfl (fun w1 hp => hPs w1 hp.below) ?_; rintro v71 _ rfl; rw [List.cons_append, List.nil_append])|(apply OKx_gc 24;exact rfl; refine OKx_call (f := 24) rfl rfl (fun w1 hp => hQs w1 hp.below) ?_; rintro v73 _ rfl; rw [List.cons_append, List.nil_append]) | (first|(refine OKx_callV (f := 18) rfl rfl rfl (fun w1 hp => hEq v71 v73 Y w1 (hp.strs 1 rfl (by omega) hns) (hp.strs 0 rfl (by omega) hns)) ?_)|(refine OKx_callV (f := 18) rfl rfl rfl (fun w1 hp => hEq v57 v64 X w1 (hp.strs 1 rfl (by omega) hXs) (hp.strs 0 rfl (by omega) hXs)) ?_))|(apply OKx_gn; refine OKx_ieqT rfl rfl ?_)|(apply OKx_gc 8;exact rfl; refine OKx_callV (f := 8) rfl rfl rfl (fun w1 hp => hA w1 hp.below) ?_)|(apply OKx_nilK)|(apply blockQ_s)|(apply thenQ_e)|(apply OK_condF;exact rfl)|(apply OK_exit)|(apply OK_ret)|(apply OKx_move;(conv=>lhs;whnf)<;>exact rfl)|(apply OKx_assign;(conv=>lhs;whnf)<;>exact rfl)|(apply OKx_lss;exact rfl;exact rfl;all_goals (intro _; try (exfalso;omega)))|(apply OKx_pickT;exact rfl;(conv=>lhs;whnf)<;>exact rfl)|(apply OKx_guardT;exact rfl;exact rfl)|(apply OKx_extract;exact rfl;(conv=>lhs;whnf)<;>exact rfl))
    all_goals (try (exfalso;omega))
    refine bodyQ_r1 (by ((conv=>lhs;whnf)<;>exact rfl)) ?_
    exact ⟨_, Ent.nil, rfl, rfl⟩
end Go.Proofs.YthnlnffmmioapaaGreatDoor
namespace Go.Proofs.YthnlnffmmioapaaGreatDoor
open Go.RowKit Go.Deep Go.WideShapes
section
variable {H : Type} {enc : TypeId × Value → H} {W : World}
def Light (t : TypeId) (d : DataW H) : Prop := ∀ n ∈ d.weights Tryz.prog t, n ≤ 140737488355328
theorem light_all {e : TypeId} {els : List (DataW H)} {d : DataW H} (hd : d ∈ els) {n : Nat} (hn : n ∈ d.weights Tryz.prog e) : n ∈ DataW.weightsAll Tryz.prog e els := by
  induction els with
  | nil => simp at hd
  | cons a r ih =>
    simp only [DataW.weightsAll, List.mem_append]
    rcases List.mem_cons.1 hd with rfl | h
    · exact .inl hn
    · exact .inr (ih h)
theorem light_slice {t e : TypeId} {els sp : List (DataW H)} (hu : Tryz.prog.underlying t = some (.slice e)) (h : Light t (.slice els sp)) : (els.length + sp.length) * Tryz.prog.bytesOf e ≤ 140737488355328 ∧ ∀ d ∈ els, Light e d := by
  unfold Light at *
  simp only [DataW.weights, hu] at h
  exact ⟨h _ (by simp), fun d hd n hn => h n (by simp [light_all hd hn])⟩
theorem light_agg {t : TypeId} {fs : Array Field} {parts : List (DataW H)} (hu : Tryz.prog.underlying t = some (.struct fs)) (h : Light t (.agg parts)) (j : Nat) {ty : TypeId} {d : DataW H} (h1 : (fs.toList.map (·.type))[j]? = some ty) (h2 : parts[j]? = some d) : Light ty d := by
  intro n hn
  refine h n ?_
  simp only [DataW.weights, hu]
  exact DataW.weights_mem_each h1 h2 n hn
theorem light_each {ts : List TypeId} {ds : List (DataW H)} (h : (DataW.weightsEach Tryz.prog ts ds).all (· ≤ reachBytes) = true) (j : Nat) {t : TypeId} {d : DataW H} (h1 : ts[j]? = some t) (h2 : ds[j]? = some d) : Light t d := by
  intro n hn
  have : n ≤ reachBytes := by simpa using List.all_eq_true.1 h _ (DataW.weights_mem_each h1 h2 n hn)
  have r : reachBytes = 140737488351232 := rfl
  omega
theorem light_string {t : TypeId} {b : List UInt8} (h : Light t (.lit (.string b) : DataW H)) : b.length ≤ 140737488355328 := h _ (by simp [DataW.weights])
theorem wf_range {z : Int} (h : (Lit.int .i64 z).wf = true) : -9223372036854775808 ≤ z ∧ z ≤ 9223372036854775807 := by
  have e1 : IntKind.i64.min = -9223372036854775808 := rfl
  have e2 : IntKind.i64.max = 9223372036854775807 := rfl
  simp only [Lit.wf, Bool.and_eq_true, decide_eq_true_eq] at h
  omega
theorem open_sl2 {t e : TypeId} {fuel sz : Nat} {v : Value} {x : DataW H × List MemPlace} (ht : Tryz.prog.underlying t = some (.slice e)) (hc : Tryz.prog.cellsOf e = sz) (hsz : 0 < sz) (hb : 0 < Tryz.prog.bytesOf e)
    (h : DataW.trod enc Tryz.prog W 0 (fun _ => true) true fuel t [v] = some x) (hw : Light t x.1) :
    ∃ (n m : Nat) (C : Nat → List Value) (D : Nat → DataW H) (Q : Nat → List MemPlace), Sl2 W v sz n (fun j c => (C j).getD c undef) ∧ (∀ a k c, v = .slice a k c → k ≤ c) ∧
      ∀ i, i < n → (C i).length = sz ∧ DataW.trod enc Tryz.prog W 0 (fun _ => true) true m e (C i) = some (D i, Q i) ∧ Light e (D i) := by
  rcases open_slice ht h with ⟨h1, h2⟩ | ⟨a, len, cap, m, n, D, Q, h1, _, hl, hm, hmm, rfl, hx⟩
  · simp only [List.cons.injEq, and_true] at h1
    subst h1; subst h2
    refine ⟨0, 0, fun _ => [], fun _ => .nil, fun _ => [], ⟨by omega, none, 0, rfl, .inl rfl⟩, ?_, fun i hi => absurd hi (by omega)⟩
    intro a k c e
    cases e; exact Nat.le_refl _
  · simp only [List.cons.injEq, and_true] at h1
    subst h1
    simp only [if_true] at hmm
    subst hmm
    obtain ⟨hw1, hw2⟩ := light_slice ht hw
    rw [hc] at hx
    have hx' : ∀ i, i < len → ∃ cs', W.cells? 0 (a.add (i * sz)) sz = some cs' ∧ DataW.trod enc Tryz.prog W 0 (fun _ => true) true n e cs' = some (D i, Q i) := fun i hi => hx i (by omega)
    obtain ⟨C, hC⟩ := choose_lt (α := List Value) hx'
    have hlen : len ≤ 140737488355328 := by
      have : len * 1 ≤ len * Tryz.prog.bytesOf e := Nat.mul_le_mul_left _ hb
      simp only [List.length_map, List.length_range] at hw1
      have h3 : len * Tryz.prog.bytesOf e ≤ (len + (m - len)) * Tryz.prog.bytesOf e := Nat.mul_le_mul_right _ (by omega)
      omega
    refine ⟨len, n, C, D, Q, ⟨hlen, some a, m, rfl, ?_⟩, ?_, fun i hi => ?_⟩
    · by_cases h0 : len = 0
      · exact .inl h0
      right
      obtain ⟨b, off, spot⟩ := a
      have hs : spot = none := by
        obtain ⟨_, h4, h5⟩ := World.cells?_some (hC 0 (by omega)).1
        have h6 := h5 0 hsz
        obtain ⟨u, hu⟩ : ∃ u, (C 0)[0]? = some u := ⟨_, List.getElem?_eq_getElem (by omega)⟩
        rw [hu] at h6
        simpa [Addr.add] using World.cell?_spot h6
      subst hs
      refine ⟨b, off, rfl, fun j hj c hcs => ?_⟩
      obtain ⟨_, h4, h5⟩ := World.cells?_some (hC j hj).1
      have h6 := h5 c hcs
      rw [add_plain, add_plain] at h6
      rw [h6]
      simp [h4, hcs]
    · intro a' k c e
      cases e; exact hl
    · obtain ⟨_, h4, h5⟩ := World.cells?_some (hC i hi).1
      refine ⟨h4, (hC i hi).2, hw2 _ ?_⟩
      exact List.mem_map.2 ⟨i, List.mem_range.2 hi, rfl⟩
theorem Sl2.flat {v : Value} {sz n : Nat} {g : Nat → Nat → Value} (h : Sl2 W v sz n g) (hr : ∀ a k c, v = .slice a k c → k ≤ c) (f : Nat → Value) (hf : ∀ j, j < n → ∀ c, c < sz → f (j * sz + c) = g j c) (hsz : 0 < sz) : Sl W v sz n f := by
  obtain ⟨h1, a, cap, rfl, h2⟩ := h
  refine ⟨h1, ⟨a, cap, rfl, ?_⟩, hr⟩
  rcases h2 with h0 | ⟨b, off, ha, hc⟩
  · exact .inl h0
  refine .inr ⟨b, off, ha, fun j hj => ?_⟩
  have h3 := Nat.div_add_mod j sz
  have h4 := Nat.mod_lt j hsz
  have h5 : j / sz < n := (Nat.div_lt_iff_lt_mul hsz).2 hj
  have h6 := hc (j / sz) h5 (j % sz) h4
  have h7 := hf (j / sz) h5 (j % sz) h4
  have h8 : j / sz * sz + j % sz = j := by rw [Nat.mul_comm]; exact h3
  rw [Nat.add_assoc, h8] at h6
  rw [h8] at h7
  rw [h6, h7]
theorem open_sl {t e : TypeId} {fuel : Nat} {v : Value} {x : DataW H × List MemPlace} (ht : Tryz.prog.underlying t = some (.slice e)) (hc : Tryz.prog.cellsOf e = 1) (hb : 0 < Tryz.prog.bytesOf e)
    (h : DataW.trod enc Tryz.prog W 0 (fun _ => true) true fuel t [v] = some x) (hw : Light t x.1) :
    ∃ (n m : Nat) (V : Nat → Value) (D : Nat → DataW H) (Q : Nat → List MemPlace), Sl W v 1 n V ∧
      ∀ i, i < n → DataW.trod enc Tryz.prog W 0 (fun _ => true) true m e [V i] = some (D i, Q i) ∧ Light e (D i) := by
  obtain ⟨n, m, C, D, Q, h1, h2, h3⟩ := open_sl2 ht hc (by decide) hb h hw
  refine ⟨n, m, fun j => (C j).getD 0 undef, D, Q, h1.flat h2 _ (fun j hj c hcs => ?_) (by decide), fun i hi => ?_⟩
  · obtain rfl : c = 0 := by omega
    simp
  · obtain ⟨h4, h5, h6⟩ := h3 i hi
    refine ⟨?_, h6⟩
    match hCi : C i, h4 with
    | [u], _ => rw [hCi] at h5; simpa [hCi] using h5
theorem range_getD {α : Type} (n : Nat) (f : Nat → α) (d : α) (j : Nat) (h : j < n) : ((List.range n).map f).getD j d = f j := by simp [h]
theorem Ints.open {fuel : Nat} {v : Value} {x : DataW H × List MemPlace} (h : DataW.trod enc Tryz.prog W 0 (fun _ => true) true fuel 31 [v] = some x) (hw : Light 31 x.1) :
    ∃ xs : List Int, Ints W v xs ∧ ∀ i ∈ xs, -9223372036854775808 ≤ i ∧ i ≤ 9223372036854775807 := by
  obtain ⟨n, m, V, D, Q, h1, h2⟩ := open_sl Tryz.underlying31 (by kernel_rfl) (of_decide_eq_true (by kernel_rfl)) h hw
  obtain ⟨Z, hZ⟩ := choose_lt (α := Int) (p := fun i z => V i = .int .i64 z ∧ -9223372036854775808 ≤ z ∧ z ≤ 9223372036854775807) (fun i hi => by
    obtain ⟨z, h4, _, h5⟩ := DataW.trod_int Tryz.underlying3 (h2 i hi).1
    refine ⟨z, by simpa using h4, ?_⟩
    have e1 : IntKind.i64.min = -9223372036854775808 := rfl
    have e2 : IntKind.i64.max = 9223372036854775807 := rfl
    simp only [Lit.wf, Bool.and_eq_true, decide_eq_true_eq] at h5
    omega)
  refine ⟨(List.range n).map Z, ?_, ?_⟩
  · unfold Ints
    rw [List.length_map, List.length_range]
    exact h1.congr fun j hj => (hZ j (by omega)).1.trans (by rw [range_getD _ _ _ _ (by omega)])
  · intro i hi
    obtain ⟨j, hj, rfl⟩ := List.mem_map.1 hi
    exact (hZ j (List.mem_range.1 hj)).2
theorem Bools.open {fuel : Nat} {v : Value} {x : DataW H × List MemPlace} (h : DataW.trod enc Tryz.prog W 0 (fun _ => true) true fuel 133 [v] = some x) (hw : Light 133 x.1) :
    ∃ xs : List Bool, Bools W v xs := by
  obtain ⟨n, m, V, D, Q, h1, h2⟩ := open_sl Tryz.underlying133 (by kernel_rfl) (of_decide_eq_true (by kernel_rfl)) h hw
  obtain ⟨Z, hZ⟩ := choose_lt (α := Bool) (p := fun i z => V i = .bool z) (fun i hi => by
    obtain ⟨z, h4, _⟩ := DataW.trod_bool Tryz.underlying4 (h2 i hi).1
    exact ⟨z, by simpa using h4⟩)
  refine ⟨(List.range n).map Z, ?_⟩
  unfold Bools
  rw [List.length_map, List.length_range]
  exact h1.congr fun j hj => (hZ j (by omega)).trans (by rw [range_getD _ _ _ _ (by omega)])
theorem Strs.open {fuel : Nat} {v : Value} {x : DataW H × List MemPlace} (h : DataW.trod enc Tryz.prog W 0 (fun _ => true) true fuel 25 [v] = some x) (hw : Light 25 x.1) :
    ∃ xs : List ByteArray, Strs W v xs := by
  obtain ⟨n, m, V, D, Q, h1, h2⟩ := open_sl Tryz.underlying25 (by kernel_rfl) (of_decide_eq_true (by kernel_rfl)) h hw
  obtain ⟨Z, hZ⟩ := choose_lt (α := ByteArray) (p := fun i z => V i = .string z ∧ z.size ≤ 140737488355328) (fun i hi => by
    obtain ⟨h3, h4⟩ := h2 i hi
    obtain ⟨z, h5, h6, _⟩ := DataW.trod_string Tryz.underlying9 h3
    simp only [Prod.mk.injEq] at h6
    rw [h6.1] at h4
    exact ⟨z, by simpa using h5, by simpa using light_string h4⟩)
  refine ⟨(List.range n).map Z, ?_, ?_⟩
  · rw [List.length_map, List.length_range]
    exact h1.congr fun j hj => (hZ j (by omega)).1.trans (by rw [range_getD _ _ _ _ (by omega)])
  · intro i hi
    obtain ⟨j, hj, rfl⟩ := List.mem_map.1 hi
    exact (hZ j (List.mem_range.1 hj)).2
theorem Tabs.open {fuel : Nat} {v : Value} {x : DataW H × List MemPlace} (h : DataW.trod enc Tryz.prog W 0 (fun _ => true) true fuel 116 [v] = some x) (hw : Light 116 x.1) :
    ∃ xs : List (List Int), Tabs W v xs ∧ ∀ r ∈ xs, ∀ i ∈ r, -9223372036854775808 ≤ i ∧ i ≤ 9223372036854775807 := by
  obtain ⟨n, m, V, D, Q, h1, h2⟩ := open_sl Tryz.underlying116 (by kernel_rfl) (of_decide_eq_true (by kernel_rfl)) h hw
  obtain ⟨Z, hZ⟩ := choose_lt (α := List Int) (p := fun i z => Ints W (V i) z ∧ ∀ i ∈ z, -9223372036854775808 ≤ i ∧ i ≤ 9223372036854775807) (fun i hi => Ints.open (h2 i hi).1 (h2 i hi).2)
  refine ⟨(List.range n).map Z, ⟨(List.range n).map V, ?_, by simp, ?_⟩, ?_⟩
  · rw [List.length_map, List.length_range]
    exact h1.congr fun j hj => by rw [range_getD _ _ _ _ (by omega)]
  · intro j hj
    have hj' : j < n := by simpa using hj
    rw [range_getD _ _ _ _ hj']
    simpa using (hZ j hj').1
  · intro i hi
    obtain ⟨j, hj, rfl⟩ := List.mem_map.1 hi
    exact (hZ j (List.mem_range.1 hj)).2
end
section
variable {H : Type} {enc : TypeId × Value → H} {W : World}
theorem one_cell {v : Value} (ho : ∃ a n c, v = .slice a n c) : v.cells.toList = [v] := by obtain ⟨a, n, c, rfl⟩ := ho; rfl
theorem Ints.openT {v : Value} {d : DataW H} {ps : List MemPlace} (ho : ∃ a n c, v = .slice a n c) (h : DataW.Trod enc Tryz.prog W 0 (fun _ => true) true 31 v d ps) (hw : Light 31 d) :
    ∃ xs : List Int, Ints W v xs ∧ ∀ i ∈ xs, -9223372036854775808 ≤ i ∧ i ≤ 9223372036854775807 := by
  obtain ⟨fuel, h⟩ := h
  rw [one_cell ho] at h
  exact Ints.open h hw
theorem Tabs.openT {v : Value} {d : DataW H} {ps : List MemPlace} (ho : ∃ a n c, v = .slice a n c) (h : DataW.Trod enc Tryz.prog W 0 (fun _ => true) true 116 v d ps) (hw : Light 116 d) :
    ∃ xs : List (List Int), Tabs W v xs ∧ ∀ r ∈ xs, ∀ i ∈ r, -9223372036854775808 ≤ i ∧ i ≤ 9223372036854775807 := by
  obtain ⟨fuel, h⟩ := h
  rw [one_cell ho] at h
  exact Tabs.open h hw
theorem u8.openT {v : Value} {d : DataW H} {ps : List MemPlace} (h : ∃ n, v = .int .u8 n ∧ d = .lit (.int .u8 n) ∧ ps = [] ∧ (Lit.int .u8 n).wf = true) : ∃ n : Int, v = .int .u8 n ∧ 0 ≤ n ∧ n ≤ 255 := by
  obtain ⟨n, rfl, _, _, hw⟩ := h
  have e1 : IntKind.u8.min = 0 := rfl
  have e2 : IntKind.u8.max = 255 := rfl
  simp only [Lit.wf, Bool.and_eq_true, decide_eq_true_eq] at hw
  exact ⟨n, rfl, by omega, by omega⟩
theorem int.openT {v : Value} {d : DataW H} {ps : List MemPlace} (h : ∃ n, v = .int .i64 n ∧ d = .lit (.int .i64 n) ∧ ps = [] ∧ (Lit.int .i64 n).wf = true) : ∃ n : Int, v = .int .i64 n ∧ -9223372036854775808 ≤ n ∧ n ≤ 9223372036854775807 := by
  obtain ⟨n, rfl, _, _, hw⟩ := h
  exact ⟨n, rfl, wf_range hw⟩
theorem again_all (hl : laidOutB Tryz.prog = true) {W' : World} (hb : Below W.heap.size W W') : ∀ {ts : List TypeId} {vs : List Value} {ds : List (DataW H)} {ps : List MemPlace},
    (ts.all fun t => Tryz.prog.readableRec t && decide (t < Tryz.prog.types.size)) = true → DataW.TrodAll enc Tryz.prog W 0 (fun _ => true) true ts vs ds ps → (∀ x ∈ ps, x.block < W.heap.size) →
    DataW.TrodAll enc Tryz.prog W' 0 (fun b => decide (b < W.heap.size)) true ts vs ds ps := by
  intro ts
  induction ts with
  | nil => intro vs ds ps _ h _; obtain ⟨rfl, rfl, rfl⟩ := Go.ChangeShapes.trodAll_nil h; rfl
  | cons t ts ih =>
    intro vs ds ps ht h hlt
    obtain ⟨v, vs', d, ds', p, q, rfl, rfl, rfl, h1, h2⟩ := Go.ChangeShapes.trodAll_cons h
    simp only [List.all_cons, Bool.and_eq_true, decide_eq_true_eq] at ht
    exact ⟨p, q, Below.trod hl ht.1.1 ht.1.2 h1 hb (fun x hx => hlt x (List.mem_append_left _ hx)), ih (by simpa using ht.2) h2 (fun x hx => hlt x (List.mem_append_right _ hx)), rfl⟩
end
end Go.Proofs.YthnlnffmmioapaaGreatDoor
namespace Go.Proofs.YthnlnffmmioapaaGreatDoor
open Go.RowKit Go.Deep Go.WideShapes
variable {H : Type} {enc : TypeId × Value → H} {W : World}
theorem Str.openT {v : Value} {d : DataW H} {ps : List MemPlace} {t : TypeId} (h : ∃ s : ByteArray, v = .string s ∧ d = .lit (.string s.data.toList) ∧ ps = [] ∧ s.size ≤ maxLen) (hw : Light t d) : ∃ s : ByteArray, v = .string s ∧ s.size ≤ 140737488355328 := by
  obtain ⟨s, rfl, rfl, _, _⟩ := h
  exact ⟨s, rfl, by simpa using light_string hw⟩
end Go.Proofs.YthnlnffmmioapaaGreatDoor
