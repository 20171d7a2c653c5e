/-
  Part 21 of the proof: Nu27. No statement of the seat is proved here.
-/
import Derived.Test.YthnlnffmmioapaaGreatDoorMHCl2720
namespace Go.Proofs.YthnlnffmmioapaaGreatDoor
open Go.RowKit
section
variable {P : Program} {n : Nat} {w0 : World} {Q : Exit → Fm → List Res → Prop} {F : Fm} {L : List Res}
theorem OK_worldU {c : Code} (h : ∀ w, Hp w0.heap.size w0 w L → OK P n w0 Q c F L) : OK P n w0 Q c F L := OK.mk' fun w a hf hp => (h w hp).use w a hf hp
end
def mapS (Fk : Lit → Option Value) (U : List ByteArray) : Prop := ∀ s, Fk (litS s) = if U.any (fun y => decide (y = s)) = true then some (.bool true) else none
theorem mapS_nil : mapS (fun _ => none) [] := fun _ => rfl
theorem mapS_put {Fk : Lit → Option Value} {U : List ByteArray} (h : mapS Fk U) (x : ByteArray) : mapS (putF Fk (litS x) (.bool true)) (U ++ [x]) := fun s => by
  rw [putF_str, h s, List.any_append]
  by_cases e : x = s
  · rw [if_pos e, if_pos]
    simp [e]
  · rw [if_neg e]
    simp only [List.any_cons, List.any_nil, decide_eq_false e, Bool.or_false]
theorem bnot_tU {b : Bool} (h : (!b) = true) : b = false := by cases b <;> first | rfl | cases h
theorem bnot_fU {b : Bool} (h : (!b) = false) : b = true := by cases b <;> first | rfl | cases h
theorem zeroBU (w : World) : (zeroValue 4).run Tryz.prog w = .ok (.bool false) w := Tryz.zeroValue4 w
set_option maxRecDepth 100000 in
set_option maxHeartbeats 4000000 in
theorem indexF_wtb_sat (v : Value) (N : Nat) (e : Nat → Value) (p : Nat → Bool) (g : FuncId) (cs : Array Value) (w : World) (h : Sl w v 1 N e) (hf : ∀ k, k < N → ∀ w1, Below w.heap.size w w1 → SatV Tryz.prog g (e k :: cs.toList) w1 (.bool (p k))) :
    Sat Tryz.prog 39 [v, .func (.func g) #[] cs] w (IdxR p N) := by
  have hN := h.bound
  refine SatL.of 19 [4] Tryz.func39 (by kernel_rfl) (by kernel_rfl) rfl rfl rfl rfl ?_
  repeat' (first|(apply OK_seq)|(apply thenQ_n)|(apply OK_region)|(apply OKx_nilK)|(apply OK_block)|(apply OKx_move;(conv=>lhs;whnf)<;>exact rfl)|(apply OKx_assign;(conv=>lhs;whnf)<;>exact rfl)|(apply OKx_lenR;(conv=>lhs;whnf)<;>exact rfl;(with_reducible assumption)))
  refine OK_loop1 8 [4, 5, 8, 9, 10, 11, 12, 13, 14, 15, 16, 17, 18] (fun m v L => ∃ k : Nat, k + m = N ∧ v = .int .i64 (k : Int) ∧ (∀ j, j < k → p j = false) ∧ L = []) N [] (Ent.refl _ _) ⟨0, by omega, rfl, fun j hj => absurd hj (by omega), rfl⟩ ?_
  rintro m v' L G ⟨k, hm, rfl, H, rfl⟩
  repeat' (first|(apply OK_seq)|(apply thenQ_n)|(apply OK_region)|(refine OKx_callB (f := g) rfl rfl rfl (fun w hp => hf k (by omega) w hp.below) ?_ ?_ <;> intro hq)|(apply OKx_nilK)|(apply OK_block)|(apply blockQ_n)|(apply blockQ_s)|(apply thenQ_e)|(apply thenQ_r)|(apply blockQ_r)|(apply OK_condT;exact rfl)|(apply OK_condF;exact rfl)|(apply OK_skip)|(apply OK_exit)|(apply OK_ret)|(apply OKx_move;(conv=>lhs;whnf)<;>exact rfl)|(apply OKx_assign;(conv=>lhs;whnf)<;>exact rfl)|(apply OKx_ldR;(conv=>lhs;whnf)<;>exact rfl;(with_reducible assumption))|(apply OKx_lss;exact rfl;exact rfl;all_goals (intro _; try (exfalso;omega)))|(apply OKx_idxR;(conv=>lhs;whnf)<;>exact rfl;(with_reducible assumption);exact rfl;omega;intro _ _)|(apply OKx_inc;exact rfl;exact rfl;omega))
  · refine bodyQ_r1 (by ((conv=>lhs;whnf)<;>exact rfl)) ?_
    exact ⟨_, Ent.refl _ _, _, rfl, rfl, by rw [anyN_hit (by omega) hq, decide_eq_true (by omega)]⟩
  · refine ⟨by (repeat' (first | refine agree_upd rfl ?_ | exact agree_over | exact agree_refl _ _ | refine agree_over2 rfl ?_)), m - 1, _, by omega, Ent.refl _ _, ?_⟩
    refine ⟨k + 1, by omega, rfl, fun j hj => ?_, rfl⟩
    by_cases hjk : j < k
    · exact H j hjk
    · obtain rfl : j = k := by omega
      exact hq
  · refine bodyQ_r1 (by ((conv=>lhs;whnf)<;>exact rfl)) ?_
    exact ⟨_, Ent.refl _ _, _, rfl, rfl, by rw [anyN_none fun j hj => H j (by omega)]; rfl⟩
set_option maxRecDepth 100000 in
set_option maxHeartbeats 4000000 in
theorem containsF_wtb_sat (v : Value) (N : Nat) (e : Nat → Value) (p : Nat → Bool) (g : FuncId) (cs : Array Value) (w : World) (h : Sl w v 1 N e) (hf : ∀ k, k < N → ∀ w1, Below w.heap.size w w1 → SatV Tryz.prog g (e k :: cs.toList) w1 (.bool (p k))) :
    SatV Tryz.prog 14 [v, .func (.func g) #[] cs] w (.bool (anyN p N)) := by
  refine SatL.of 9 [4] Tryz.func14 (by kernel_rfl) (by kernel_rfl) rfl rfl rfl rfl ?_
  repeat' (first|(apply OK_seq)|(apply thenQ_n)|(apply OK_region)|(apply OKx_gc 39;exact rfl; refine OKx_call (f := 39) rfl rfl (fun w hp => indexF_wtb_sat v N e p g cs w (h.below hp.below) (fun k hk w1 hb => hf k hk w1 (below_on hp.below hb))) ?_; rintro _ _ ⟨i, rfl, rfl, hi⟩)|(apply OKx_nilK)|(apply OK_ret)|(apply OKx_move;(conv=>lhs;whnf)<;>exact rfl)|(apply OKx_assign;(conv=>lhs;whnf)<;>exact rfl)|(apply OKx_geq;exact rfl;exact rfl;all_goals (intro _; try (exfalso;omega))))
  all_goals
    refine bodyQ_r1 (by ((conv=>lhs;whnf)<;>exact rfl)) ?_
    exact ⟨_, Ent.refl _ _, bool_eq (by rw [hi]; simp;omega), rfl⟩
def UnzV (w : World) (u : List Rdn) (v : Value) : Prop := ∃ (a b : Int) (c : Value), v = .agg #[.int .i64 a, .int .i64 b, c] ∧ Rdns w c u
theorem UnzV.below {w w' : World} {u : List Rdn} {v : Value} (h : UnzV w u v) (hb : Below w.heap.size w w') : UnzV w' u v := by
  obtain ⟨a, b, c, h1, h2⟩ := h
  exact ⟨a, b, c, h1, h2.below hb⟩
def Unzs (w : World) (v : Value) (l : List (List Rdn)) : Prop := ∃ g, Sl2 w v 3 l.length g ∧ ∀ j, (h : j < l.length) → UnzV w l[j] (.agg #[g j 0, g j 1, g j 2])
set_option maxRecDepth 100000 in
set_option maxHeartbeats 4000000 in
theorem un1_sat (v : Value) (l : List ByteArray) (w : World) (h : Strs w v l) : SatV Tryz.prog 49 [v] w (.bool (!wdsB l)) := by
  have hW := fun w1 (hb : Below w.heap.size w w1) => words_sat v l w1 (h.below hb)
  obtain ⟨a, c, rfl, _⟩ := h.at
  refine SatL.of 6 [2] Tryz.func49 (by kernel_rfl) (by kernel_rfl) rfl rfl rfl rfl ?_
  repeat' (first|(apply OK_seq)|(apply thenQ_n)|(apply OK_region)|(apply OKx_gc 29;exact rfl; refine OKx_callB (f := 29) rfl rfl rfl (fun w1 hp => hW w1 hp.below) ?_ ?_ <;> intro hq)|(apply OKx_nilK)|(apply OK_ret)|(apply OKx_move;(conv=>lhs;whnf)<;>exact rfl)|(apply OKx_assign;(conv=>lhs;whnf)<;>exact rfl)|(apply OKx_notT;exact rfl)|(apply OKx_notF;exact rfl))
  all_goals
    refine bodyQ_r1 (by ((conv=>lhs;whnf)<;>exact rfl)) ?_
    exact ⟨_, Ent.nil, by rw [hq]; rfl, rfl⟩
set_option maxRecDepth 100000 in
set_option maxHeartbeats 4000000 in
theorem un2_sat (v : Value) (u : List Rdn) (w : World) (h : UnzV w u v) : SatV Tryz.prog 50 [v] w (.bool (!u.all rdgB)) := by
  obtain ⟨a1, a2, uv, rfl, hU⟩ := h
  have hG := fun w1 (hb : Below w.heap.size w w1) => readings_sat (.int .i64 a1) (.int .i64 a2) uv u w1 (hU.below hb)
  refine SatL.of 6 [2] Tryz.func50 (by kernel_rfl) (by kernel_rfl) rfl rfl rfl rfl ?_
  repeat' (first|(apply OK_seq)|(apply thenQ_n)|(apply OK_region)|(apply OKx_gc 43;exact rfl; refine OKx_callB (f := 43) rfl rfl rfl (fun w1 hp => hG w1 hp.below) ?_ ?_ <;> intro hq)|(apply OKx_nilK)|(apply OK_ret)|(apply OKx_assign;(conv=>lhs;whnf)<;>exact rfl)|(apply OKx_notT;exact rfl)|(apply OKx_notF;exact rfl)|(apply OKx_boxA;exact rfl;intro _)|(apply OKx_ldBA;exact rfl; (apply atP;constructor);exact rfl))
  all_goals
    refine bodyQ_r1 (by ((conv=>lhs;whnf)<;>exact rfl)) ?_
    exact ⟨_, Ent.nil, by rw [hq]; rfl, rfl⟩
theorem usd_len (rs : List Rul) (bs : List (List ByteArray)) (us : List (List Rdn)) (B : Nat) (h : ∀ u ∈ us, u.length ≤ B) : ∀ k, k ≤ us.length → (usdN rs bs us k).length ≤ k * B
  | 0, _ => by simp [usdN]
  | k + 1, hk => by
    have ih := usd_len rs bs us B h k (by omega)
    rw [usdN_step, List.length_append, unN_len, getD_lt _ _ _ (show k < us.length by omega), Nat.succ_mul]
    have := h _ (List.getElem_mem (show k < us.length by omega))
    omega
def UnuR (rs : List Rul) (bs : List (List ByteArray)) (us : List (List Rdn)) (u : Value) (L : List Res) : Prop := ∃ v, u = .tuple #[v, .int .i64 (unuE rs bs us)] ∧ L = [.row 9 1 v (unuL rs bs us).length (strs (unuL rs bs us))]
theorem unuE_zero {rs : List Rul} {bs : List (List ByteArray)} {us : List (List Rdn)} (h : unuE rs bs us = 0) : us.length ≤ 4096 ∧ rulE rs = 0 ∧ bs.all wdsB = true ∧ us.all (fun u => u.all rdgB) = true ∧ bs.length = us.length := by
  unfold unuE at h
  by_cases h1 : 4096 < us.length
  · rw [if_pos h1] at h; cases h
  rw [if_neg h1] at h
  by_cases h2 : rulE rs = 0 ∧ bs.all wdsB = true ∧ us.all (fun u => u.all rdgB) = true
  · rw [if_pos h2] at h
    by_cases h3 : bs.length = us.length
    · exact ⟨by omega, h2.1, h2.2.1, h2.2.2, h3⟩
    · rw [if_neg h3] at h; cases h
  · rw [if_neg h2] at h; cases h
set_option maxRecDepth 100000 in
set_option maxHeartbeats 4000000 in
theorem Unused_sat (lv bv uv : Value) (rs : List Rul) (bs : List (List ByteArray)) (us : List (List Rdn)) (w : World) (hR : Ruls w lv rs) (hB : Wtb w bv bs) (hU : Unzs w uv us) (hkd : KdL w) (hkf : KfL w) (ht : TbL w) (hlen : ∀ u ∈ us, u.length ≤ 100000) :
    Sat Tryz.prog 21 [lv, bv, uv] w (UnuR rs bs us) := by
  have hK := fun w1 (h : Below w.heap.size w w1) => Check_sat lv rs w1 (hR.below h) (hkd.below h) (ht.below h)
  have hN := fun w1 (h : Below w.heap.size w w1) => Names_sat lv rs w1 (hR.below h)
  have hun := fun (bv a1 a2 u : Value) (b : List ByteArray) (l : List Rdn) w1 (h : Below w.heap.size w w1) (hb : Strs w bv b) (hl : Rdns w u l) => unit_sat lv bv a1 a2 u rs b l w1 (hR.below h) (hb.below h) (hl.below h) (hkf.below h)
  obtain ⟨gr, hSr, _⟩ := hR
  obtain ⟨hrb, ra, rc, rfl, _⟩ := id hSr
  obtain ⟨gb, hSb, hEb⟩ := hB
  have hSb0 := hSb
  obtain ⟨hbb, _⟩ := And.intro hSb.bound trivial
  obtain ⟨ba, bc, rfl, _⟩ := hSb.out
  obtain ⟨gu, hSu, hEu⟩ := hU
  obtain ⟨hub, ua, uc, rfl, _⟩ := id hSu
  have hW : ∀ w1, Below w.heap.size w w1 → SatV Tryz.prog 14 [.slice ba bs.length bc, .func (.func 49) #[] #[]] w1 (.bool (!(bs.all wdsB))) := fun w1 hb => by
    have := containsF_wtb_sat _ bs.length gb (fun j => !wdsB (bs.getD j [])) 49 #[] w1 (hSb.below hb) (fun j hj w2 hb2 => by
      rw [show bs.getD j [] = bs[j] from getD_lt _ _ _ hj]
      exact un1_sat _ _ w2 (((hEb j hj).below hb).below hb2))
    rwa [anyN_nots (f := wdsB) (fun j hj => by rw [getD_lt _ _ _ hj])] at this
  have hG : ∀ w1, Below w.heap.size w w1 → SatV Tryz.prog 40 [.slice ua us.length uc, .func (.func 50) #[] #[]] w1 (.bool (!(us.all fun u => u.all rdgB))) := fun w1 hb => by
    have := containsF_uni_sat _ us.length gu (fun j => !(us.getD j []).all rdgB) 50 #[] w1 (hSu.below hb) (fun j hj w2 hb2 => by
      rw [show us.getD j [] = us[j] from getD_lt _ _ _ hj]
      exact un2_sat _ _ w2 (((hEu j hj).below hb).below hb2))
    rwa [anyN_nots (f := fun u : List Rdn => u.all rdgB) (fun j hj => by rw [getD_lt _ _ _ hj])] at this
  by_cases h0 : unuE rs bs us = 0
  rotate_left
  · have hbad : ∀ e, unuE rs bs us = e → e ≠ 0 → UnuR rs bs us (.tuple #[.slice none 0 0, .int .i64 e]) [.row 9 1 (.slice none 0 0) 0 []] := fun e he hz => ⟨_, by rw [he], by unfold unuL; rw [if_neg h0]; rfl⟩
    have hE4 : 4096 < us.length → unuE rs bs us = 4 := fun h => if_pos h
    have hE1 : us.length ≤ 4096 → ¬(rulE rs = 0 ∧ bs.all wdsB = true ∧ us.all (fun u => u.all rdgB) = true) → unuE rs bs us = 1 := fun h1 h2 => by
      unfold unuE; rw [if_neg (by omega), if_neg h2]
    have hE9 : us.length ≤ 4096 → (rulE rs = 0 ∧ bs.all wdsB = true ∧ us.all (fun u => u.all rdgB) = true) → bs.length ≠ us.length → unuE rs bs us = 9 := fun h1 h2 h3 => by
      unfold unuE; rw [if_neg (by omega), if_pos h2, if_neg h3]
    refine SatL.of 79 [6, 7] Tryz.func21 (by kernel_rfl) (by kernel_rfl) rfl rfl rfl rfl ?_
    repeat' (first|(apply OK_seq)|(apply thenQ_n)|(apply OK_region)|(apply OKx_gc 42;exact rfl; refine OKx_callV (f := 42) rfl rfl rfl (fun w1 hp => hK w1 hp.below) ?_)|(apply OKx_gc 14;exact rfl; refine OKx_callB (f := 14) rfl rfl rfl (fun w1 hp => hW w1 hp.below) ?_ ?_ <;> intro q2)|(apply OKx_gc 40;exact rfl; refine OKx_callB (f := 40) rfl rfl rfl (fun w1 hp => hG w1 hp.below) ?_ ?_ <;> intro q3)|(refine OKx_mkMap 9 ?_; intro gm)|(apply OKx_nilK)|(apply OK_block)|(apply blockQ_n)|(apply thenQ_r)|(apply blockQ_r)|(apply OK_condT;exact rfl)|(apply OK_condF;exact rfl)|(apply OK_skip)|(apply OK_ret)|(apply OKx_move;(conv=>lhs;whnf)<;>exact rfl)|(apply OKx_assign;(conv=>lhs;whnf)<;>exact rfl)|(apply OKx_len;exact rfl)|(apply OKx_gtr;exact rfl;exact rfl;all_goals (intro _; try (exfalso;omega)))|(apply OKx_neq;exact rfl;exact rfl;all_goals (intro _; try (exfalso;omega)))|(apply OKx_pickT;exact rfl;(conv=>lhs;whnf)<;>exact rfl)|(apply OKx_pickF;exact rfl;(conv=>lhs;whnf)<;>exact rfl)|(apply OKx_guardT;exact rfl;exact rfl)|(apply OKx_guardF;exact rfl;exact rfl))
    all_goals first
      | ((refine bodyQ_r2 (by ((conv=>lhs;whnf)<;>exact rfl)) (by ((conv=>lhs;whnf)<;>exact rfl)) ?_)
         refine ⟨_, Ent.mk fun w1 h1 => (h1.none).nil _ _, hbad _ ?_ (by decide)⟩
         first
           | exact hE4 (by omega)
           | exact hE1 (by omega) (fun hh => by first | exact absurd hh.1 (by assumption) | exact Bool.noConfusion (hh.2.1.symm.trans (bnot_tU q2)) | exact Bool.noConfusion (hh.2.2.symm.trans (bnot_tU q3)))
           | exact hE9 (by omega) ⟨by assumption, bnot_fU q2, bnot_fU q3⟩ (by omega))
      | (exfalso;omega)
      | (exfalso
         apply h0
         unfold unuE
         rw [if_neg (by omega), if_pos ⟨by assumption, bnot_fU q2, bnot_fU q3⟩, if_pos (by omega)])
  obtain ⟨e1, e2, e3, e4, e5⟩ := unuE_zero h0
  rw [e2] at hK
  rw [e3] at hW
  rw [e4] at hG
  have hsz := fun k => unN_size e2 (bs.getD k []) (us.getD k [])
  have hul := usd_len rs bs us 100000 hlen
  have hul2 := fun k (hk : k ≤ us.length) => Nat.le_trans (hul k hk) (Nat.mul_le_mul_right 100000 (Nat.le_trans hk e1))
  have hrl := (rulE_zero e2).1
  unfold UnuR
  rw [h0, show unuL rs bs us = nseL (usdN rs bs us us.length) (namL rs) from if_pos h0]
  refine SatL.of 79 [6, 7] Tryz.func21 (by kernel_rfl) (by kernel_rfl) rfl rfl rfl rfl ?_
  repeat' (first|(apply OK_seq)|(apply thenQ_n)|(apply OK_region)|(apply OKx_gc 42;exact rfl; refine OKx_callV (f := 42) rfl rfl rfl (fun w1 hp => hK w1 hp.below) ?_)|(apply OKx_gc 14;exact rfl; refine OKx_callV (f := 14) rfl rfl rfl (fun w1 hp => hW w1 hp.below) ?_)|(apply OKx_gc 40;exact rfl; refine OKx_callV (f := 40) rfl rfl rfl (fun w1 hp => hG w1 hp.below) ?_)|(refine OKx_mkMap 9 ?_; intro gm)|(apply OKx_nilK)|(apply OK_block)|(apply blockQ_n)|(apply OK_condF;exact rfl)|(apply OK_skip)|(apply OKx_move;(conv=>lhs;whnf)<;>exact rfl)|(apply OKx_assign;(conv=>lhs;whnf)<;>exact rfl)|(apply OKx_len;exact rfl)|(apply OKx_gtr;exact rfl;exact rfl;all_goals (intro _; try (exfalso;omega)))|(apply OKx_neq;exact rfl;exact rfl;all_goals (intro _; try (exfalso;omega)))|(apply OKx_pickF;exact rfl;(conv=>lhs;whnf)<;>exact rfl)|(apply OKx_guardT;exact rfl;exact rfl))
  all_goals (try (exfalso;omega))
  refine OK_loop1 41 [9, 10, 12, 41, 42, 43, 44, 45, 46, 47, 48, 49, 50, 51, 52, 53, 54, 55, 56, 57, 58, 59, 60, 61] (fun m v L => ∃ (k : Nat) (Fk : Lit → Option Value), k + m = us.length ∧ v = .int .i64 (k : Int) ∧ mapS Fk (usdN rs bs us k) ∧ L = [.obj gm (MapIs Tryz.prog 9 (usdN rs bs us k).length Fk)]) us.length _ (Ent.refl _ _) ⟨0, _, by omega, rfl, mapS_nil, rfl⟩ ?_
  rintro m v' L G ⟨k, Fk, hm, rfl, hF, rfl⟩
  by_cases hk : k < us.length
  · obtain ⟨a1, a2, rv, hag, hRv⟩ := hEu k hk
    obtain ⟨gx, hSx, _⟩ := id hRv
    obtain ⟨_, xa, xc, rfl, _⟩ := hSx
    have heq : ((List.range 3).map (gu k)).toArray = #[.int .i64 a1, .int .i64 a2, .slice xa us[k].length xc] := Value.agg.inj hag
    have hbk := hEb k (by omega)
    have hbd : bs.getD k [] = bs[k]'(by omega) := getD_lt _ _ _ (by omega)
    have hud : us.getD k [] = us[k] := getD_lt _ _ _ hk
    have hszk := hsz k
    have hstk := usdN_step rs bs us k
    have hulk1 := hul2 (k + 1) (by omega)
    rw [hstk, List.length_append] at hulk1
    rw [hbd, hud] at hszk hstk hulk1
    have hunk := fun w1 (h : Below w.heap.size w w1) => hun _ (.int .i64 a1) (.int .i64 a2) _ (bs[k]'(by omega)) us[k] w1 h hbk hRv (List.all_eq_true.1 e3 _ (List.getElem_mem _)) (List.all_eq_true.1 e4 _ (List.getElem_mem _)) e2 (by have := hlen _ (List.getElem_mem hk);omega)
    generalize unN rs (bs[k]'(by omega)) us[k] = N at hunk hszk hstk hulk1
    generalize usdN rs bs us k = U at hF hstk hulk1
    repeat' (first|(apply OK_seq)|(apply thenQ_n)|(apply OK_region)|(apply OKx_allocA; intro g10)|(apply OKx_gi; refine OKx_idxR2 (i := k) rfl hSu rfl hk ?_; intro pp hpp)|(apply OKx_gl; refine OKx_ldRA rfl hpp ?_; rw [heq])|(apply OKx_gi; refine OKx_idxR (i := k) rfl hSb0 rfl (by omega) ?_; intro pb hpb)|(apply OKx_gl; refine OKx_ldR rfl hpb ?_)|(apply OKx_gc 44;exact rfl; refine OKx_ent (L' := [.box 46 g10 [.int .i64 a1, .int .i64 a2, .slice xa us[k].length xc], .obj gm (MapIs Tryz.prog 9 U.length Fk)]) (Ent.refl _ _) ?_; refine OKx_call (f := 44) rfl rfl (fun w1 hp => hunk w1 hp.below) ?_; rintro u9 _ rfl; rw [List.cons_append, List.nil_append])|(refine OK_rid 11 ?_; refine OK_mix [8] [0, 1, 2, 3, 4, 5] [] [6, 7] [.box 46 g10 [.int .i64 a1, .int .i64 a2, .slice xa us[k].length xc]] (id := 11) (by kernel_rfl) (by kernel_rfl) rfl (by first | exact Ent.pick [0] rfl) (by ((try simp only [pickO, nthO, List.cons_append, List.nil_append]) <;> exact rfl)) (by ((try simp only [pickO, nthO, List.cons_append, List.nil_append]) <;> exact rfl)) (by ((try simp only [pickO]) <;> exact rfl)) (by ((try simp only [pickO, nthO, List.cons_append, List.nil_append]) <;> exact rfl)) ?_)|(apply OKx_nilK)|(apply OK_block)|(apply OK_condT;exact rfl)|(apply OK_skip)|(apply OKx_move;(conv=>lhs;whnf)<;>exact rfl)|(apply OKx_assign;(conv=>lhs;whnf)<;>exact rfl)|(apply OKx_lenO;(conv=>lhs;whnf)<;>exact rfl; (apply atP;constructor))|(apply OKx_lss;exact rfl;exact rfl;all_goals (intro _; try (exfalso;omega)))|(apply OKx_ldBA;exact rfl; (apply atP;constructor);exact rfl)|(apply OKx_stBA; kernel_rfl;exact rfl;exact rfl;exact rfl; (apply atP;constructor);exact rfl;exact rfl;exact rfl))
    all_goals (try (exfalso;omega))
    refine OK_loop1 54 [12, 54, 55, 56, 57, 58, 59, 60] (fun m2 v L => ∃ (j : Nat) (Fj : Lit → Option Value), j + m2 = N.length ∧ v = .int .i64 (j : Int) ∧ mapS Fj (U ++ N.take j) ∧ L = [.row 9 1 u9 N.length (strs N), .obj gm (MapIs Tryz.prog 9 (U.length + j) Fj)]) N.length _ (Ent.pick [0, 2] rfl) ⟨0, Fk, by omega, rfl, by rw [List.take_zero, List.append_nil]; exact hF, rfl⟩ ?_
    rintro m2 v2 L G2 ⟨j, Fj, hm2, rfl, hFj, rfl⟩
    by_cases hj : j < N.length
    · refine OK_worldU fun w1 hw1 => ?_
      obtain ⟨gq, cq, rfl⟩ := hw1.rowForm 0 rfl (by omega)
      have hat : (strs N)[j]? = some (.string N[j]) := by
        unfold strs
        rw [List.getElem?_map, List.getElem?_eq_getElem hj]
        rfl
      have hks := hszk N[j] (List.getElem_mem hj)
      repeat' (first|(apply OK_seq)|(apply thenQ_n)|(apply OK_region)|(apply OKx_gl; refine OKx_ldW 0 rfl rfl (by omega) hat ?_)|(refine OKx_mapSet (val := .bool true) 1 rfl rfl rfl rfl TKeyS Tryz.underlying73 (by omega) (keyS _ hks) (litS_key _) ?_; simp only [List.set_cons_succ, List.set_cons_zero])|(apply OKx_nilK)|(apply OK_block)|(apply blockQ_n)|(apply OK_condT;exact rfl)|(apply OK_skip)|(apply OKx_move;(conv=>lhs;whnf)<;>exact rfl)|(apply OKx_assign;(conv=>lhs;whnf)<;>exact rfl)|(apply OKx_lss;exact rfl;exact rfl;all_goals (intro _; try (exfalso;omega)))|(apply OKx_idxO;exact rfl;exact rfl;omega)|(apply OKx_inc;exact rfl;exact rfl;omega))
      all_goals (try (exfalso;omega))
      refine ⟨by (repeat' (first | refine agree_upd rfl ?_ | exact agree_over | exact agree_refl _ _ | refine agree_over2 rfl ?_)), m2 - 1, _, by omega, Ent.refl _ _, ?_⟩
      refine ⟨j + 1, _, by omega, rfl, ?_, rfl⟩
      rw [List.take_succ_eq_append_getElem hj, ← List.append_assoc]
      exact mapS_put hFj _
    · obtain rfl : j = N.length := by omega
      rw [List.take_length] at hFj
      repeat' (first|(apply OK_seq)|(apply thenQ_n)|(apply OK_region)|(apply OKx_nilK)|(apply blockQ_n)|(apply blockQ_s)|(apply thenQ_e)|(apply OK_condF;exact rfl)|(apply OK_exit)|(apply OKx_move;(conv=>lhs;whnf)<;>exact rfl)|(apply OKx_lss;exact rfl;exact rfl;all_goals (intro _; try (exfalso;omega)))|(apply OKx_inc;exact rfl;exact rfl;omega))
      all_goals (try (exfalso;omega))
      refine ⟨by (repeat' (first | refine agree_upd rfl ?_ | exact agree_over | exact agree_refl _ _ | refine agree_over2 rfl ?_)), m - 1, _, by omega, Ent.pick [1] rfl, ?_⟩
      exact ⟨k + 1, Fj, by omega, rfl, by rw [hstk]; exact hFj, by rw [hstk, List.length_append] <;> rfl⟩
  · obtain rfl : k = us.length := by omega
    have hnk : ∀ s ∈ namL rs, s.size ≤ 140737488355328 := fun s hs => by
      obtain ⟨x, hx, rfl⟩ := List.mem_map.1 hs
      have := isNm_size (rulE_ok e2 x hx).1
      omega
    have hnn := namL_len rs
    have hNm := fun w1 (h : Below w.heap.size w w1) => hN w1 h (by omega)
    generalize usdN rs bs us us.length = U at hF
    generalize namL rs = M at hnk hnn hNm
    repeat' (first|(apply OK_seq)|(apply thenQ_n)|(apply OK_region)|(apply OKx_gc 23;exact rfl; refine OKx_call (f := 23) rfl rfl (fun w1 hp => hNm w1 hp.below) ?_; rintro u8 _ rfl; rw [List.cons_append, List.nil_append])|(apply OKx_nilK)|(apply OK_block)|(apply blockQ_s)|(apply thenQ_e)|(apply OK_condF;exact rfl)|(apply OK_exit)|(apply OKx_move;(conv=>lhs;whnf)<;>exact rfl)|(apply OKx_assign;(conv=>lhs;whnf)<;>exact rfl)|(apply OKx_lenO;(conv=>lhs;whnf)<;>exact rfl; (apply atP;constructor))|(apply OKx_lss;exact rfl;exact rfl;all_goals (intro _; try (exfalso;omega))))
    all_goals (try (exfalso;omega))
    refine OK_loop2 13 65 [13, 15, 65, 66, 67, 68, 69, 70, 71, 72, 73, 74, 75, 76, 77] (fun m2 v13 v65 L => ∃ j : Nat, j + m2 = M.length ∧ v65 = .int .i64 (j : Int) ∧ L = [.row 9 1 v13 (nseL U (M.take j)).length (strs (nseL U (M.take j))), .row 9 1 u8 M.length (strs M), .obj gm (MapIs Tryz.prog 9 U.length Fk)]) M.length _ (Ent.mk fun w1 h1 => h1.nil _ _) ⟨0, by omega, rfl, rfl⟩ ?_
    rintro m2 v13 v65 L G2 ⟨j, hm2, rfl, rfl⟩
    by_cases hj : j < M.length
    · refine OK_worldU fun w1 hw1 => ?_
      obtain ⟨gq, cq, rfl⟩ := hw1.rowForm 1 rfl (by omega)
      have hat : (strs M)[j]? = some (.string M[j]) := by
        unfold strs
        rw [List.getElem?_map, List.getElem?_eq_getElem hj]
        rfl
      have hks := hnk M[j] (List.getElem_mem hj)
      have hsn := nse_snoc U (M.take j) M[j]
      rw [← List.take_succ_eq_append_getElem hj] at hsn
      have hnl := nse_le U (M.take j)
      rw [List.length_take] at hnl
      have hlk := hF M[j]
      have hss := strs_snoc27 (nseL U (M.take j)) M[j]
      cases hu : U.any fun y => decide (y = M[j])
      · rw [hu, if_neg (by decide)] at hsn hlk
        repeat' (first|(apply OK_seq)|(apply thenQ_n)|(apply OK_region)|(apply OKx_gl; refine OKx_ldW 1 rfl rfl (by omega) hat ?_)|(refine OKx_look (v := .bool false) 2 rfl rfl rfl TKeyS Tryz.underlying73 zeroBU (keyS _ hks) (litS_key _) (by rw [hlk]; rfl) ?_)|(apply OKx_gb; refine OKx_append1 1 0 rfl rfl rfl rfl rfl (by omega) (by omega) ?_; intro gr9 cr9)|(apply OKx_nilK)|(apply OK_block)|(apply blockQ_n)|(apply OK_condT;exact rfl)|(apply OK_skip)|(apply OKx_move;(conv=>lhs;whnf)<;>exact rfl)|(apply OKx_assign;(conv=>lhs;whnf)<;>exact rfl)|(apply OKx_lss;exact rfl;exact rfl;all_goals (intro _; try (exfalso;omega)))|(apply OKx_idxO;exact rfl;exact rfl;omega)|(apply OKx_inc;exact rfl;exact rfl;omega)|(apply OKx_notF;exact rfl)|(apply OKx_slit1;(conv=>lhs;whnf)<;>exact rfl;exact rfl;intro _))
        all_goals (try (exfalso;omega))
        refine ⟨by (repeat' (first | refine agree_upd rfl ?_ | exact agree_over | exact agree_refl _ _ | refine agree_over2 rfl ?_)), m2 - 1, _, by omega, Ent.pick [1, 2, 3] rfl, ?_⟩
        exact ⟨j + 1, by omega, rfl, by rw [hsn, List.length_append, hss] <;> rfl⟩
      · rw [hu, if_pos rfl] at hsn hlk
        repeat' (first|(apply OK_seq)|(apply thenQ_n)|(apply OK_region)|(apply OKx_gl; refine OKx_ldW 1 rfl rfl (by omega) hat ?_)|(refine OKx_look (v := .bool true) 2 rfl rfl rfl TKeyS Tryz.underlying73 zeroBU (keyS _ hks) (litS_key _) (by rw [hlk]; rfl) ?_)|(apply OKx_nilK)|(apply OK_block)|(apply blockQ_n)|(apply OK_condT;exact rfl)|(apply OK_condF;exact rfl)|(apply OK_skip)|(apply OKx_move;(conv=>lhs;whnf)<;>exact rfl)|(apply OKx_assign;(conv=>lhs;whnf)<;>exact rfl)|(apply OKx_lss;exact rfl;exact rfl;all_goals (intro _; try (exfalso;omega)))|(apply OKx_idxO;exact rfl;exact rfl;omega)|(apply OKx_inc;exact rfl;exact rfl;omega)|(apply OKx_notT;exact rfl))
        all_goals (try (exfalso;omega))
        refine ⟨by (repeat' (first | refine agree_upd rfl ?_ | exact agree_over | exact agree_refl _ _ | refine agree_over2 rfl ?_)), m2 - 1, _, by omega, Ent.refl _ _, ?_⟩
        exact ⟨j + 1, by omega, rfl, by rw [hsn] <;> rfl⟩
    · obtain rfl : j = M.length := by omega
      rw [List.take_length]
      repeat' (first|(apply OK_seq)|(apply thenQ_n)|(apply OK_region)|(apply OKx_nilK)|(apply blockQ_s)|(apply thenQ_e)|(apply OK_condF;exact rfl)|(apply OK_exit)|(apply OK_ret)|(apply OKx_move;(conv=>lhs;whnf)<;>exact rfl)|(apply OKx_assign;(conv=>lhs;whnf)<;>exact rfl)|(apply OKx_lss;exact rfl;exact rfl;all_goals (intro _; try (exfalso;omega))))
      all_goals (try (exfalso;omega))
      refine bodyQ_r2 (by ((conv=>lhs;whnf)<;>exact rfl)) (by ((conv=>lhs;whnf)<;>exact rfl)) ?_
      exact ⟨_, Ent.pick [0] rfl, _, rfl, rfl⟩
end Go.Proofs.YthnlnffmmioapaaGreatDoor
