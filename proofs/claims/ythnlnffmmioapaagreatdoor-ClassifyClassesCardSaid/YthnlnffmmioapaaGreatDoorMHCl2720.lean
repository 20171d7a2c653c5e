/-
  Part 20 of the proof: Lq27, Cl27. No statement of the seat is proved here.
-/
import Derived.Test.YthnlnffmmioapaaGreatDoorMHCl2719
namespace Go.Proofs.YthnlnffmmioapaaGreatDoor
def baseN : ByteArray := ⟨#[98, 97, 115, 101]⟩
def claE (rs : List Rul) (b : List ByteArray) (r : Rdn) : Int := if rulE rs = 0 ∧ wdsB b = true ∧ rdgB r = true then 0 else 1
def claN (rs : List Rul) (b : List ByteArray) (r : Rdn) : ByteArray := if claE rs b r = 0 then clsN rs b r else ⟨#[]⟩
def unB (rs : List Rul) (b : List ByteArray) (r : Rdn) : ByteArray := if r.words = b then baseN else clsN rs b r
def unN (rs : List Rul) (b : List ByteArray) (l : List Rdn) : List ByteArray := l.map (unB rs b)
def untE (rs : List Rul) (b : List ByteArray) (l : List Rdn) : Int := if rulE rs = 0 ∧ wdsB b = true ∧ l.all rdgB = true then 0 else 1
def untL (rs : List Rul) (b : List ByteArray) (l : List Rdn) : List ByteArray := if untE rs b l = 0 then unN rs b l else []
def namL (rs : List Rul) : List ByteArray := rs.map Rul.name
def unuE (rs : List Rul) (bs : List (List ByteArray)) (us : List (List Rdn)) : Int :=
  if 4096 < us.length then 4 else if rulE rs = 0 ∧ bs.all wdsB = true ∧ us.all (fun u => u.all rdgB) = true then (if bs.length = us.length then 0 else 9) else 1
def usdN (rs : List Rul) (bs : List (List ByteArray)) (us : List (List Rdn)) (k : Nat) : List ByteArray := ((List.range k).map fun i => unN rs (bs.getD i []) (us.getD i [])).flatten
def nseL (used names : List ByteArray) : List ByteArray := names.filter fun s => !used.any fun y => decide (y = s)
def unuL (rs : List Rul) (bs : List (List ByteArray)) (us : List (List Rdn)) : List ByteArray := if unuE rs bs us = 0 then nseL (usdN rs bs us us.length) (namL rs) else []
theorem usdN_step (rs : List Rul) (bs : List (List ByteArray)) (us : List (List Rdn)) (k : Nat) : usdN rs bs us (k + 1) = usdN rs bs us k ++ unN rs (bs.getD k []) (us.getD k []) := by
  unfold usdN
  rw [List.range_succ, List.map_append, List.flatten_append]
  simp
theorem unN_len (rs : List Rul) (b : List ByteArray) (l : List Rdn) : (unN rs b l).length = l.length := List.length_map _
theorem claE_zero {rs : List Rul} {b : List ByteArray} {r : Rdn} : claE rs b r = 0 ↔ rulE rs = 0 ∧ wdsB b = true ∧ rdgB r = true := by
  unfold claE
  split
  · exact ⟨fun _ => (by assumption), fun _ => rfl⟩
  · exact ⟨fun h => (by cases h), fun h => (by contradiction)⟩
theorem untE_zero {rs : List Rul} {b : List ByteArray} {l : List Rdn} : untE rs b l = 0 ↔ rulE rs = 0 ∧ wdsB b = true ∧ l.all rdgB = true := by
  unfold untE
  split
  · exact ⟨fun _ => (by assumption), fun _ => rfl⟩
  · exact ⟨fun h => (by cases h), fun h => (by contradiction)⟩
theorem nse_snoc (used l : List ByteArray) (s : ByteArray) : nseL used (l ++ [s]) = if used.any (fun y => decide (y = s)) = true then nseL used l else nseL used l ++ [s] := by
  unfold nseL
  rw [List.filter_append]
  cases h : used.any (fun y => decide (y = s)) with
  | true =>
    rw [if_pos rfl, List.filter_cons, if_neg (by rw [h]; decide)]
    exact List.append_nil _
  | false =>
    rw [if_neg (by decide), List.filter_cons, if_pos (by rw [h]; rfl)]
    rfl
theorem nse_le (used l : List ByteArray) : (nseL used l).length ≤ l.length := List.length_filter_le _ _
theorem namL_len (rs : List Rul) : (namL rs).length = rs.length := List.length_map _
theorem clsN_size {rs : List Rul} (h : rulE rs = 0) (b : List ByteArray) (r : Rdn) : (clsN rs b r).size ≤ 140737488355328 := by
  unfold clsN
  cases hf : rs.find? fun x => x.cnd.hd b r.words r.src.length with
  | none => show (5 : Nat) ≤ _;omega
  | some x =>
    have hx := (rulE_ok h x (List.mem_of_find?_eq_some hf)).1
    unfold isNm at hx
    simp only [Bool.and_eq_true, decide_eq_true_eq] at hx
    show x.name.size ≤ _
    omega
theorem unB_size {rs : List Rul} (h : rulE rs = 0) (b : List ByteArray) (r : Rdn) : (unB rs b r).size ≤ 140737488355328 := by
  unfold unB
  split
  · show (4 : Nat) ≤ _;omega
  · exact clsN_size h b r
theorem unN_size {rs : List Rul} (h : rulE rs = 0) (b : List ByteArray) (l : List Rdn) : ∀ s ∈ unN rs b l, s.size ≤ 140737488355328 := fun s hs => by
  obtain ⟨r, _, rfl⟩ := List.mem_map.1 hs
  exact unB_size h b r
theorem untL_size (rs : List Rul) (b : List ByteArray) (l : List Rdn) : ∀ s ∈ untL rs b l, s.size ≤ 140737488355328 := fun s hs => by
  unfold untL at hs
  by_cases h : untE rs b l = 0
  · rw [if_pos h] at hs
    exact unN_size (untE_zero.1 h).1 b l s hs
  · rw [if_neg h] at hs
    cases hs
theorem untL_len (rs : List Rul) (b : List ByteArray) (l : List Rdn) : (untL rs b l).length ≤ l.length := by
  unfold untL
  split
  · rw [unN_len]; exact Nat.le_refl _
  · exact Nat.zero_le _
end Go.Proofs.YthnlnffmmioapaaGreatDoor
namespace Go.Proofs.YthnlnffmmioapaaGreatDoor
open Go.RowKit
theorem strs_snoc27 (xs : List ByteArray) (x : ByteArray) : strs (xs ++ [x]) = strs xs ++ [.string x] := by simp [strs]
set_option maxRecDepth 100000 in
set_option maxHeartbeats 4000000 in
theorem class_sat (lv cv : Value) (rs : List Rul) (b : List ByteArray) (r : Rdn) (w : World) (hR : Ruls w lv rs) (hQ : QueV w b r cv) (hkf : KfL w) (hb : wdsB b = true) (hr : rdgB r = true) (ho : ∀ x ∈ rs, x.cnd.own = true) :
    SatV Tryz.prog 48 [lv, cv] w (.string (clsN rs b r)) := by
  obtain ⟨g, hS, hE, hcp⟩ := hR
  obtain ⟨hbd, la, lc, rfl, _⟩ := id hS
  have hQ0 := hQ
  obtain ⟨bv, wv, sv, rfl, hB, hW, hSr⟩ := hQ
  refine SatL.of 20 [4] Tryz.func48 (by kernel_rfl) (by kernel_rfl) rfl rfl rfl rfl ?_
  repeat' (first|(apply OK_seq)|(apply thenQ_n)|(apply OK_region)|(apply OKx_nilK)|(apply OK_block)|(apply OKx_move;(conv=>lhs;whnf)<;>exact rfl)|(apply OKx_assign;(conv=>lhs;whnf)<;>exact rfl)|(apply OKx_len;exact rfl)|(apply OKx_boxA;exact rfl;intro _))
  rename_i gc
  refine OK_loop1 9 [4, 6, 9, 10, 11, 12, 13, 14, 15, 16, 17, 18, 19] (fun m v L => ∃ j : Nat, j + m = rs.length ∧ v = .int .i64 (j : Int) ∧ (∀ x ∈ rs.take j, x.cnd.hd b r.words r.src.length = false) ∧ L = [.box 63 gc [bv, wv, sv]]) rs.length _ (Ent.refl _ _) ⟨0, by omega, rfl, by simp, rfl⟩ ?_
  rintro m vj L G ⟨j, hm, rfl, H, rfl⟩
  by_cases hj : j < rs.length
  · obtain ⟨aj, cj, hag, hX, hnz⟩ := (hE j hj).lit
    have heq : ((List.range 5).map (g j)).toArray = #[.string rs[j].name, .int .i64 rs[j].cnd.kind, .int .i64 rs[j].cnd.num, .string rs[j].cnd.text, .slice aj rs[j].cnd.parts.length cj] := Value.agg.inj hag
    have hH := fun w1 (h : Below w.heap.size w w1) => holds_sat _ rs[j].cnd (Nat.le_refl _) (ho _ (List.getElem_mem hj)) _ _ b r w1 (hX.below h) (hQ0.below h) (hkf.below h) hb hr
    repeat' (first|(apply OK_seq)|(apply thenQ_n)|(apply OK_region)|(apply OKx_gi; refine OKx_idxR2 (i := j) rfl hS rfl hj ?_; intro pp hpp)|(apply OKx_gl; refine OKx_ldRA rfl hpp ?_; rw [heq])|(apply OKx_gl; refine OKx_ldB1 0 rfl rfl rfl ?_)|(apply OKx_gc 31;exact rfl; refine OKx_callB (f := 31) rfl rfl rfl (fun w1 hp => hH w1 hp.below) ?_ ?_ <;> intro hq)|(apply OKx_nilK)|(apply OK_block)|(apply blockQ_n)|(apply thenQ_r)|(apply blockQ_r)|(apply OK_condT;exact rfl)|(apply OK_condF;exact rfl)|(apply OK_skip)|(apply OK_ret)|(apply OKx_move;(conv=>lhs;whnf)<;>exact rfl)|(apply OKx_assign;(conv=>lhs;whnf)<;>exact rfl)|(apply OKx_ldB;exact rfl; (apply atP;constructor);exact rfl)|(apply OKx_lss;exact rfl;exact rfl;all_goals (intro _; try (exfalso;omega)))|(apply OKx_fldO;exact rfl;exact rfl)|(apply OKx_inc;exact rfl;exact rfl;omega)|(apply OKx_allocA;intro _)|(apply OKx_ldBA;exact rfl; (apply atP;constructor);exact rfl)|(apply OKx_stBA; kernel_rfl;exact rfl;exact rfl;exact rfl; (apply atP;constructor);exact rfl;exact rfl;exact rfl))
    · refine bodyQ_r1 (by ((conv=>lhs;whnf)<;>exact rfl)) ?_
      exact ⟨_, Ent.nil, by rw [clsN_skip j hj H hq], rfl⟩
    · refine ⟨by (repeat' (first | refine agree_upd rfl ?_ | exact agree_over | exact agree_refl _ _ | refine agree_over2 rfl ?_)), m - 1, _, by omega, Ent.pick [1] rfl, ?_⟩
      refine ⟨j + 1, by omega, rfl, fun x hx => ?_, rfl⟩
      rw [List.take_succ_eq_append_getElem hj] at hx
      rcases List.mem_append.1 hx with hx | hx
      · exact H x hx
      · rw [List.mem_singleton.1 hx]; exact hq
  · obtain rfl : j = rs.length := by omega
    rw [List.take_length] at H
    repeat' (first|(apply OK_seq)|(apply thenQ_n)|(apply OK_region)|(apply OKx_nilK)|(apply blockQ_s)|(apply thenQ_e)|(apply OK_condF;exact rfl)|(apply OK_exit)|(apply OK_ret)|(apply OKx_assign;(conv=>lhs;whnf)<;>exact rfl)|(apply OKx_lss;exact rfl;exact rfl;all_goals (intro _; try (exfalso;omega))))
    refine bodyQ_r1 (by ((conv=>lhs;whnf)<;>exact rfl)) ?_
    exact ⟨_, Ent.nil, by rw [clsN_none H], rfl⟩
theorem rul_own {rs : List Rul} (h : rulE rs = 0) : ∀ x ∈ rs, x.cnd.own = true := fun x hx => (rgtE_zero (rulE_ok h x hx).2.2.2).2
set_option maxRecDepth 100000 in
set_option maxHeartbeats 4000000 in
theorem Class_sat (lv bv rv : Value) (rs : List Rul) (b : List ByteArray) (r : Rdn) (w : World) (hR : Ruls w lv rs) (hB : Strs w bv b) (hRd : RdnV w r rv) (hkd : KdL w) (hkf : KfL w) (ht : TbL w) :
    SatV Tryz.prog 19 [lv, bv, rv] w (.tuple #[.string (claN rs b r), .int .i64 (claE rs b r)]) := by
  have hC := fun w1 (h : Below w.heap.size w w1) => Check_sat lv rs w1 (hR.below h) (hkd.below h) (ht.below h)
  have hW := fun w1 (h : Below w.heap.size w w1) => words_sat bv b w1 (hB.below h)
  have hG := fun w1 (h : Below w.heap.size w w1) => reading_sat rv r w1 (hRd.below h)
  have hR0 := hR
  obtain ⟨g, hS, _⟩ := hR
  obtain ⟨_, la, lc, rfl, _⟩ := id hS
  obtain ⟨ba, bc, rfl, hbl, _⟩ := hB.at
  obtain ⟨wv, sv, rfl, hWv, hSv⟩ := hRd
  obtain ⟨wa, wc, rfl, hwl, _⟩ := hWv.at
  obtain ⟨sa, sc, rfl, hsl, _⟩ := hSv.at
  by_cases h0 : rulE rs = 0 ∧ wdsB b = true ∧ rdgB r = true
  · have e0 : claE rs b r = 0 := claE_zero.2 h0
    have hH := fun w1 (h : Below w.heap.size w w1) => class_sat _ (.agg #[.slice ba b.length bc, .slice wa r.words.length wc, .slice sa r.src.length sc]) rs b r w1 (hR0.below h) ⟨_, _, _, rfl, hB.below h, hWv.below h, hSv.below h⟩ (hkf.below h) h0.2.1 h0.2.2 (rul_own h0.1)
    rw [h0.1] at hC
    rw [h0.2.1] at hW
    rw [h0.2.2] at hG
    rw [show claN rs b r = clsN rs b r from if_pos e0, e0]
    refine SatL.of 26 [6, 7] Tryz.func19 (by kernel_rfl) (by kernel_rfl) rfl rfl rfl rfl ?_
    repeat' (first|(apply OK_seq)|(apply thenQ_n)|(apply OK_region)|(apply OKx_gc 42;exact rfl; refine OKx_callV (f := 42) rfl rfl rfl (fun w1 hp => hC w1 hp.below) ?_)|(apply OKx_gc 29;exact rfl; refine OKx_callV (f := 29) rfl rfl rfl (fun w1 hp => hW w1 hp.below) ?_)|(apply OKx_gc 30;exact rfl; refine OKx_callV (f := 30) rfl rfl rfl (fun w1 hp => hG w1 hp.below) ?_)|(apply OKx_gc 48;exact rfl; refine OKx_callV (f := 48) rfl rfl rfl (fun w1 hp => hH w1 hp.below) ?_)|(refine OKx_buildG [(0, .slice ba b.length bc), (1, .agg #[.slice wa r.words.length wc, .slice sa r.src.length sc])] #[.slice ba b.length bc, .slice wa r.words.length wc, .slice sa r.src.length sc] rfl (que_build _ _ _ _ _ _ _ _ _) ?_)|(apply OKx_nilK)|(apply OK_condF;exact rfl)|(apply OK_skip)|(apply OK_ret)|(apply OKx_move;(conv=>lhs;whnf)<;>exact rfl)|(apply OKx_assign;(conv=>lhs;whnf)<;>exact rfl)|(apply OKx_neq;exact rfl;exact rfl;all_goals (intro _; try (exfalso;omega)))|(apply OKx_pickF;exact rfl;(conv=>lhs;whnf)<;>exact rfl)|(apply OKx_guardT;exact rfl;exact rfl)|(apply OKx_notT;exact rfl)|(apply OKx_boxA;exact rfl;intro _)|(apply OKx_ldBA;exact rfl; (apply atP;constructor);exact rfl))
    refine bodyQ_r2 (by ((conv=>lhs;whnf)<;>exact rfl)) (by ((conv=>lhs;whnf)<;>exact rfl)) ?_
    exact ⟨_, Ent.nil, rfl, rfl⟩
  · have e0 : claE rs b r = 1 := if_neg h0
    rw [show claN rs b r = ⟨#[]⟩ from if_neg (by rw [e0]; decide), e0]
    refine SatL.of 26 [6, 7] Tryz.func19 (by kernel_rfl) (by kernel_rfl) rfl rfl rfl rfl ?_
    repeat' (first|(apply OK_seq)|(apply thenQ_n)|(apply OK_region)|(apply OKx_gc 42;exact rfl; refine OKx_callV (f := 42) rfl rfl rfl (fun w1 hp => hC w1 hp.below) ?_)|(apply OKx_gc 29;exact rfl; refine OKx_callB (f := 29) rfl rfl rfl (fun w1 hp => hW w1 hp.below) ?_ ?_ <;> intro q2)|(apply OKx_gc 30;exact rfl; refine OKx_callB (f := 30) rfl rfl rfl (fun w1 hp => hG w1 hp.below) ?_ ?_ <;> intro q3; (try exact absurd ⟨by assumption, q2, q3⟩ h0))|(apply OKx_nilK)|(apply thenQ_r)|(apply OK_condT;exact rfl)|(apply OK_ret)|(apply OKx_move;(conv=>lhs;whnf)<;>exact rfl)|(apply OKx_assign;(conv=>lhs;whnf)<;>exact rfl)|(apply OKx_neq;exact rfl;exact rfl;all_goals (intro _; try (exfalso;omega)))|(apply OKx_pickT;exact rfl;(conv=>lhs;whnf)<;>exact rfl)|(apply OKx_pickF;exact rfl;(conv=>lhs;whnf)<;>exact rfl)|(apply OKx_guardT;exact rfl;exact rfl)|(apply OKx_guardF;exact rfl;exact rfl)|(apply OKx_notT;exact rfl)|(apply OKx_notF;exact rfl)|(apply OKx_boxA;exact rfl;intro _)|(apply OKx_ldBA;exact rfl; (apply atP;constructor);exact rfl))
    all_goals
      refine bodyQ_r2 (by ((conv=>lhs;whnf)<;>exact rfl)) (by ((conv=>lhs;whnf)<;>exact rfl)) ?_
      exact ⟨_, Ent.nil, rfl, rfl⟩
set_option maxRecDepth 100000 in
set_option maxHeartbeats 4000000 in
theorem Names_sat (lv : Value) (rs : List Rul) (w : World) (hR : Ruls w lv rs) (hl : rs.length ≤ 1000000) : Sat Tryz.prog 23 [lv] w (fun u L => L = [.row 9 1 u (namL rs).length (strs (namL rs))]) := by
  obtain ⟨g, hS, hE, hcp⟩ := hR
  obtain ⟨hbd, la, lc, rfl, _⟩ := id hS
  refine SatL.of 19 [2] Tryz.func23 (by kernel_rfl) (by kernel_rfl) rfl rfl rfl rfl ?_
  repeat' (first|(apply OK_seq)|(apply thenQ_n)|(apply OK_region)|(apply OKx_nilK)|(apply OK_block)|(apply OKx_move;(conv=>lhs;whnf)<;>exact rfl)|(apply OKx_assign;(conv=>lhs;whnf)<;>exact rfl)|(apply OKx_len;exact rfl))
  refine OK_loop2 3 8 [3, 5, 8, 9, 10, 11, 12, 13, 14, 15, 16, 17] (fun m v3 v8 L => ∃ j : Nat, j + m = rs.length ∧ v8 = .int .i64 (j : Int) ∧ L = [.row 9 1 v3 (namL (rs.take j)).length (strs (namL (rs.take j)))]) rs.length _ (Ent.mk fun w1 h1 => h1.nil _ _) ⟨0, by omega, rfl, rfl⟩ ?_
  rintro m v3 v8 L G ⟨j, hm, rfl, rfl⟩
  by_cases hj : j < rs.length
  · obtain ⟨aj, cj, hag, hX, hnz⟩ := (hE j hj).lit
    have heq : ((List.range 5).map (g j)).toArray = #[.string rs[j].name, .int .i64 rs[j].cnd.kind, .int .i64 rs[j].cnd.num, .string rs[j].cnd.text, .slice aj rs[j].cnd.parts.length cj] := Value.agg.inj hag
    have hnm : namL (rs.take (j + 1)) = namL (rs.take j) ++ [rs[j].name] := by
      unfold namL
      rw [List.take_succ_eq_append_getElem hj, List.map_append]
      rfl
    have hnl : (namL (rs.take j)).length = j := by rw [namL_len, List.length_take];omega
    have hss := strs_snoc27 (namL (rs.take j)) rs[j].name
    repeat' (first|(apply OK_seq)|(apply thenQ_n)|(apply OK_region)|(apply OKx_gi; refine OKx_idxR2 (i := j) rfl hS rfl hj ?_; intro pp hpp)|(apply OKx_gl; refine OKx_ldRA rfl hpp ?_; rw [heq])|(apply OKx_gb; refine OKx_append1 2 0 rfl rfl rfl rfl rfl (by omega) (by omega) ?_; intro gr cr)|(apply OKx_nilK)|(apply OK_block)|(apply blockQ_n)|(apply OK_condT;exact rfl)|(apply OK_skip)|(apply OKx_move;(conv=>lhs;whnf)<;>exact rfl)|(apply OKx_assign;(conv=>lhs;whnf)<;>exact rfl)|(apply OKx_ldB;exact rfl; (apply atP;constructor);exact rfl)|(apply OKx_lss;exact rfl;exact rfl;all_goals (intro _; try (exfalso;omega)))|(apply OKx_fldO;exact rfl;exact rfl)|(apply OKx_inc;exact rfl;exact rfl;omega)|(apply OKx_allocA;intro _)|(apply OKx_slit1;(conv=>lhs;whnf)<;>exact rfl;exact rfl;intro _)|(apply OKx_stBA; kernel_rfl;exact rfl;exact rfl;exact rfl; (apply atP;constructor);exact rfl;exact rfl;exact rfl))
    refine ⟨by (repeat' (first | refine agree_upd rfl ?_ | exact agree_over | exact agree_refl _ _ | refine agree_over2 rfl ?_)), m - 1, _, by omega, Ent.pick [2] rfl, ?_⟩
    exact ⟨j + 1, by omega, rfl, by rw [hnm, List.length_append, hss] <;> rfl⟩
  · obtain rfl : j = rs.length := by omega
    rw [List.take_length]
    repeat' (first|(apply OK_seq)|(apply thenQ_n)|(apply OK_region)|(apply OKx_nilK)|(apply blockQ_s)|(apply thenQ_e)|(apply OK_condF;exact rfl)|(apply OK_exit)|(apply OK_ret)|(apply OKx_move;(conv=>lhs;whnf)<;>exact rfl)|(apply OKx_assign;(conv=>lhs;whnf)<;>exact rfl)|(apply OKx_lss;exact rfl;exact rfl;all_goals (intro _; try (exfalso;omega))))
    refine bodyQ_r1 (by ((conv=>lhs;whnf)<;>exact rfl)) ?_
    exact ⟨_, Ent.refl _ _, rfl⟩
theorem unN_step (rs : List Rul) (b : List ByteArray) (l : List Rdn) (j : Nat) (hj : j < l.length) : unN rs b (l.take (j + 1)) = unN rs b (l.take j) ++ [unB rs b l[j]] := by
  unfold unN
  rw [List.take_succ_eq_append_getElem hj, List.map_append]
  rfl
set_option maxRecDepth 100000 in
set_option maxHeartbeats 4000000 in
theorem unit_sat (lv bv a1 a2 uv : Value) (rs : List Rul) (b : List ByteArray) (l : List Rdn) (w : World) (hR : Ruls w lv rs) (hB : Strs w bv b) (hU : Rdns w uv l) (hkf : KfL w) (hb : wdsB b = true) (hr : l.all rdgB = true) (h0 : rulE rs = 0) (hl : l.length ≤ 100000000) :
    Sat Tryz.prog 44 [lv, bv, .agg #[a1, a2, uv]] w (fun u L => L = [.row 9 1 u (unN rs b l).length (strs (unN rs b l))]) := by
  obtain ⟨g, hS, hE⟩ := hU
  obtain ⟨hbd, la, lc, rfl, _⟩ := id hS
  have hB0 := hB
  obtain ⟨ba, bc, rfl, hbl, _⟩ := hB.at
  have hR0 := hR
  obtain ⟨gr, hSr, _⟩ := hR
  obtain ⟨_, ra, rc, rfl, _⟩ := id hSr
  refine SatL.of 34 [6] Tryz.func44 (by kernel_rfl) (by kernel_rfl) rfl rfl rfl rfl ?_
  repeat' (first|(apply OK_seq)|(apply thenQ_n)|(apply OK_region)|(apply OKx_nilK)|(apply OK_block)|(apply OKx_move;(conv=>lhs;whnf)<;>exact rfl)|(apply OKx_assign;(conv=>lhs;whnf)<;>exact rfl)|(apply OKx_ldB;exact rfl; (apply atP;constructor);exact rfl)|(apply OKx_len;exact rfl)|(apply OKx_fldO;exact rfl;exact rfl)|(apply OKx_boxA;exact rfl;intro _))
  refine OK_loop2 7 13 [7, 9, 13, 14, 15, 16, 17, 18, 19, 20, 21, 22, 23, 24, 25, 26, 27, 28, 29, 30, 31, 32] (fun m v7 v13 L => ∃ j : Nat, j + m = l.length ∧ v13 = .int .i64 (j : Int) ∧ L = [.row 9 1 v7 (unN rs b (l.take j)).length (strs (unN rs b (l.take j)))]) l.length _ (Ent.mk fun w1 h1 => h1.none.nil _ _) ⟨0, by omega, rfl, rfl⟩ ?_
  rintro m v7 v13 L G ⟨j, hm, rfl, rfl⟩
  by_cases hj : j < l.length
  · obtain ⟨wv, sv, hag, hWv, hSv⟩ := hE j hj
    obtain ⟨wa, wc, rfl, hwl, _⟩ := hWv.at
    obtain ⟨sa, sc, rfl, hsl, _⟩ := hSv.at
    have heq : ((List.range 2).map (g j)).toArray = #[.slice wa l[j].words.length wc, .slice sa l[j].src.length sc] := Value.agg.inj hag
    have hnm := unN_step rs b l j hj
    have hnl : (unN rs b (l.take j)).length = j := by rw [unN_len, List.length_take];omega
    have hss := strs_snoc27 (unN rs b (l.take j)) (unB rs b l[j])
    have hq0 := fun w1 (h : Below w.heap.size w w1) => equalB_sat _ _ l[j].words b w1 (hWv.below h) (hB0.below h)
    have hcl := fun w1 (h : Below w.heap.size w w1) => class_sat _ (.agg #[.slice ba b.length bc, .slice wa l[j].words.length wc, .slice sa l[j].src.length sc]) rs b l[j] w1 (hR0.below h) ⟨_, _, _, rfl, hB0.below h, hWv.below h, hSv.below h⟩ (hkf.below h) hb (List.all_eq_true.1 hr _ (List.getElem_mem hj)) (rul_own h0)
    by_cases hw : l[j].words = b
    · have hub : unB rs b l[j] = baseN := if_pos hw
      rw [decide_eq_true hw] at hq0
      rw [hub] at hnm hss
      repeat' (first|(apply OK_seq)|(apply thenQ_n)|(apply OK_region)|(apply OKx_gi; refine OKx_idxR2 (i := j) rfl hS rfl hj ?_; intro pp hpp)|(apply OKx_gl; refine OKx_ldRA rfl hpp ?_; rw [heq])|(apply OKx_gc 18;exact rfl; refine OKx_callV (f := 18) rfl rfl rfl (fun w1 hp => hq0 w1 hp.below) ?_)|(apply OKx_gb; refine OKx_append1 2 0 rfl rfl rfl rfl rfl (by omega) (by omega) ?_; intro gr cr)|(apply OKx_nilK)|(apply OK_block)|(apply blockQ_n)|(apply OK_condT;exact rfl)|(apply OK_skip)|(apply OKx_move;(conv=>lhs;whnf)<;>exact rfl)|(apply OKx_assign;(conv=>lhs;whnf)<;>exact rfl)|(apply OKx_ldB;exact rfl; (apply atP;constructor);exact rfl)|(apply OKx_lss;exact rfl;exact rfl;all_goals (intro _; try (exfalso;omega)))|(apply OKx_fldO;exact rfl;exact rfl)|(apply OKx_inc;exact rfl;exact rfl;omega)|(apply OKx_allocA;intro _)|(apply OKx_slit1;(conv=>lhs;whnf)<;>exact rfl;exact rfl;intro _)|(apply OKx_stBA; kernel_rfl;exact rfl;exact rfl;exact rfl; (apply atP;constructor);exact rfl;exact rfl;exact rfl))
      refine ⟨by (repeat' (first | refine agree_upd rfl ?_ | exact agree_over | exact agree_refl _ _ | refine agree_over2 rfl ?_)), m - 1, _, by omega, Ent.pick [2] rfl, ?_⟩
      exact ⟨j + 1, by omega, rfl, by rw [hnm, List.length_append, hss] <;> rfl⟩
    · have hub : unB rs b l[j] = clsN rs b l[j] := if_neg hw
      rw [decide_eq_false hw] at hq0
      rw [hub] at hnm hss
      repeat' (first|(apply OK_seq)|(apply thenQ_n)|(apply OK_region)|(apply OKx_gi; refine OKx_idxR2 (i := j) rfl hS rfl hj ?_; intro pp hpp)|(apply OKx_gl; refine OKx_ldRA rfl hpp ?_; rw [heq])|(apply OKx_gc 18;exact rfl; refine OKx_callV (f := 18) rfl rfl rfl (fun w1 hp => hq0 w1 hp.below) ?_)|(apply OKx_gc 48;exact rfl; refine OKx_callV (f := 48) rfl rfl rfl (fun w1 hp => hcl w1 hp.below) ?_)|(refine OKx_buildG [(0, .slice ba b.length bc), (1, .agg #[.slice wa l[j].words.length wc, .slice sa l[j].src.length sc])] #[.slice ba b.length bc, .slice wa l[j].words.length wc, .slice sa l[j].src.length sc] rfl (que_build _ _ _ _ _ _ _ _ _) ?_)|(apply OKx_gb; refine OKx_append1 2 0 rfl rfl rfl rfl rfl (by omega) (by omega) ?_; intro gr cr)|(apply OKx_nilK)|(apply OK_block)|(apply blockQ_n)|(apply OK_condT;exact rfl)|(apply OK_condF;exact rfl)|(apply OK_skip)|(apply OKx_move;(conv=>lhs;whnf)<;>exact rfl)|(apply OKx_assign;(conv=>lhs;whnf)<;>exact rfl)|(apply OKx_ldB;exact rfl; (apply atP;constructor);exact rfl)|(apply OKx_lss;exact rfl;exact rfl;all_goals (intro _; try (exfalso;omega)))|(apply OKx_fldO;exact rfl;exact rfl)|(apply OKx_inc;exact rfl;exact rfl;omega)|(apply OKx_allocA;intro _)|(apply OKx_ldBA;exact rfl; (apply atP;constructor);exact rfl)|(apply OKx_slit1;(conv=>lhs;whnf)<;>exact rfl;exact rfl;intro _)|(apply OKx_stBA; kernel_rfl;exact rfl;exact rfl;exact rfl; (apply atP;constructor);exact rfl;exact rfl;exact rfl))
      refine ⟨by (repeat' (first | refine agree_upd rfl ?_ | exact agree_over | exact agree_refl _ _ | refine agree_over2 rfl ?_)), m - 1, _, by omega, Ent.pick [2] rfl, ?_⟩
      exact ⟨j + 1, by omega, rfl, by rw [hnm, List.length_append, hss] <;> rfl⟩
  · obtain rfl : j = l.length := by omega
    rw [List.take_length]
    repeat' (first|(apply OK_seq)|(apply thenQ_n)|(apply OK_region)|(apply OKx_nilK)|(apply blockQ_s)|(apply thenQ_e)|(apply OK_condF;exact rfl)|(apply OK_exit)|(apply OK_ret)|(apply OKx_move;(conv=>lhs;whnf)<;>exact rfl)|(apply OKx_assign;(conv=>lhs;whnf)<;>exact rfl)|(apply OKx_lss;exact rfl;exact rfl;all_goals (intro _; try (exfalso;omega))))
    refine bodyQ_r1 (by ((conv=>lhs;whnf)<;>exact rfl)) ?_
    exact ⟨_, Ent.refl _ _, rfl⟩
set_option maxRecDepth 100000 in
set_option maxHeartbeats 4000000 in
theorem readings1_sat (v : Value) (r : Rdn) (w : World) (h : RdnV w r v) : SatV Tryz.prog 72 [v] w (.bool (!rdgB r)) := by
  have hG := fun w1 (hb : Below w.heap.size w w1) => reading_sat v r w1 (h.below hb)
  obtain ⟨wv, sv, rfl, _, _⟩ := h
  refine SatL.of 6 [2] Tryz.func72 (by kernel_rfl) (by kernel_rfl) rfl rfl rfl rfl ?_
  repeat' (first|(apply OK_seq)|(apply thenQ_n)|(apply OK_region)|(apply OKx_gc 30;exact rfl; refine OKx_callB (f := 30) rfl rfl rfl (fun w1 hp => hG w1 hp.below) ?_ ?_ <;> intro hq)|(apply OKx_nilK)|(apply OK_ret)|(apply OKx_assign;(conv=>lhs;whnf)<;>exact rfl)|(apply OKx_notT;exact rfl)|(apply OKx_notF;exact rfl)|(apply OKx_boxA;exact rfl;intro _)|(apply OKx_ldBA;exact rfl; (apply atP;constructor);exact rfl))
  all_goals
    refine bodyQ_r1 (by ((conv=>lhs;whnf)<;>exact rfl)) ?_
    exact ⟨_, Ent.nil, by rw [hq]; rfl, rfl⟩
set_option maxRecDepth 100000 in
set_option maxHeartbeats 4000000 in
theorem readings_sat (a1 a2 uv : Value) (l : List Rdn) (w : World) (hU : Rdns w uv l) : SatV Tryz.prog 43 [.agg #[a1, a2, uv]] w (.bool (l.all rdgB)) := by
  obtain ⟨g, hS, hE⟩ := hU
  obtain ⟨hbd, la, lc, rfl, _⟩ := id hS
  have hC : ∀ w1, Below w.heap.size w w1 → SatV Tryz.prog 36 [.slice la l.length lc, .func (.func 72) #[] #[]] w1 (.bool (!(l.all rdgB))) := fun w1 hb => by
    have := containsF_rdn_sat _ l.length g (fun j => !rdgB (l.getD j default)) 72 #[] w1 (hS.below hb) (fun j hj w2 hb2 => by
      rw [show l.getD j default = l[j] from getD_lt _ _ _ hj]
      exact readings1_sat _ _ w2 (((hE j hj).below hb).below hb2))
    rwa [anyN_nots (f := rdgB) (fun j hj => by rw [getD_lt _ _ _ hj])] at this
  refine SatL.of 7 [2] Tryz.func43 (by kernel_rfl) (by kernel_rfl) rfl rfl rfl rfl ?_
  repeat' (first|(apply OK_seq)|(apply thenQ_n)|(apply OK_region)|(apply OKx_gc 36;exact rfl; refine OKx_callB (f := 36) rfl rfl rfl (fun w1 hp => hC w1 hp.below) ?_ ?_ <;> intro hq)|(apply OKx_nilK)|(apply OK_ret)|(apply OKx_assign;(conv=>lhs;whnf)<;>exact rfl)|(apply OKx_ldB;exact rfl; (apply atP;constructor);exact rfl)|(apply OKx_fldO;exact rfl;exact rfl)|(apply OKx_notT;exact rfl)|(apply OKx_notF;exact rfl)|(apply OKx_boxA;exact rfl;intro _))
  all_goals
    refine bodyQ_r1 (by ((conv=>lhs;whnf)<;>exact rfl)) ?_
    exact ⟨_, Ent.nil, bool_eq (by cases h9 : l.all rdgB <;> rw [h9] at hq <;> first | rfl | (cases hq)), rfl⟩
def UntR (rs : List Rul) (b : List ByteArray) (l : List Rdn) (u : Value) (L : List Res) : Prop := ∃ v, u = .tuple #[v, .int .i64 (untE rs b l)] ∧ L = [.row 9 1 v (untL rs b l).length (strs (untL rs b l))]
set_option maxRecDepth 100000 in
set_option maxHeartbeats 4000000 in
theorem Unit_sat (lv bv a1 a2 uv : Value) (rs : List Rul) (b : List ByteArray) (l : List Rdn) (w : World) (hR : Ruls w lv rs) (hB : Strs w bv b) (hU : Rdns w uv l) (hkd : KdL w) (hkf : KfL w) (ht : TbL w) (hl : l.length ≤ 100000000) :
    Sat Tryz.prog 16 [lv, bv, .agg #[a1, a2, uv]] w (UntR rs b l) := by
  have hC := fun w1 (h : Below w.heap.size w w1) => Check_sat lv rs w1 (hR.below h) (hkd.below h) (ht.below h)
  have hW := fun w1 (h : Below w.heap.size w w1) => words_sat bv b w1 (hB.below h)
  have hG := fun w1 (h : Below w.heap.size w w1) => readings_sat a1 a2 uv l w1 (hU.below h)
  have hR0 := hR
  have hB0 := hB
  have hU0 := hU
  obtain ⟨g, hS, _⟩ := hR
  obtain ⟨_, la, lc, rfl, _⟩ := id hS
  obtain ⟨ba, bc, rfl, hbl, _⟩ := hB.at
  obtain ⟨gu, hSu, _⟩ := hU
  obtain ⟨_, ua, uc, rfl, _⟩ := id hSu
  by_cases h0 : rulE rs = 0 ∧ wdsB b = true ∧ l.all rdgB = true
  · have e0 : untE rs b l = 0 := untE_zero.2 h0
    have hH := fun w1 (h : Below w.heap.size w w1) => unit_sat _ _ a1 a2 _ rs b l w1 (hR0.below h) (hB0.below h) (hU0.below h) (hkf.below h) h0.2.1 h0.2.2 h0.1 hl
    rw [h0.1] at hC
    rw [h0.2.1] at hW
    rw [h0.2.2] at hG
    unfold UntR
    rw [show untL rs b l = unN rs b l from if_pos e0, e0]
    refine SatL.of 25 [6, 7] Tryz.func16 (by kernel_rfl) (by kernel_rfl) rfl rfl rfl rfl ?_
    repeat' (first|(apply OK_seq)|(apply thenQ_n)|(apply OK_region)|(apply OKx_gc 42;exact rfl; refine OKx_callV (f := 42) rfl rfl rfl (fun w1 hp => hC w1 hp.below) ?_)|(apply OKx_gc 29;exact rfl; refine OKx_callV (f := 29) rfl rfl rfl (fun w1 hp => hW w1 hp.below) ?_)|(apply OKx_gc 43;exact rfl; refine OKx_callV (f := 43) rfl rfl rfl (fun w1 hp => hG w1 hp.below) ?_)|(apply OKx_gc 44;exact rfl; refine OKx_call (f := 44) rfl rfl (fun w1 hp => hH w1 hp.below) ?_; intro v9 L9 hL9; obtain rfl := hL9; rw [List.cons_append, List.nil_append])|(apply OKx_nilK)|(apply OK_condF;exact rfl)|(apply OK_skip)|(apply OK_ret)|(apply OKx_move;(conv=>lhs;whnf)<;>exact rfl)|(apply OKx_assign;(conv=>lhs;whnf)<;>exact rfl)|(apply OKx_neq;exact rfl;exact rfl;all_goals (intro _; try (exfalso;omega)))|(apply OKx_pickF;exact rfl;(conv=>lhs;whnf)<;>exact rfl)|(apply OKx_guardT;exact rfl;exact rfl)|(apply OKx_notT;exact rfl)|(apply OKx_boxA;exact rfl;intro _)|(apply OKx_ldBA;exact rfl; (apply atP;constructor);exact rfl))
    refine bodyQ_r2 (by ((conv=>lhs;whnf)<;>exact rfl)) (by ((conv=>lhs;whnf)<;>exact rfl)) ?_
    exact ⟨_, Ent.pick [0] rfl, _, rfl, rfl⟩
  · have e0 : untE rs b l = 1 := if_neg h0
    unfold UntR
    rw [show untL rs b l = [] from if_neg (by rw [e0]; decide), e0]
    refine SatL.of 25 [6, 7] Tryz.func16 (by kernel_rfl) (by kernel_rfl) rfl rfl rfl rfl ?_
    repeat' (first|(apply OK_seq)|(apply thenQ_n)|(apply OK_region)|(apply OKx_gc 42;exact rfl; refine OKx_callV (f := 42) rfl rfl rfl (fun w1 hp => hC w1 hp.below) ?_)|(apply OKx_gc 29;exact rfl; refine OKx_callB (f := 29) rfl rfl rfl (fun w1 hp => hW w1 hp.below) ?_ ?_ <;> intro q2)|(apply OKx_gc 43;exact rfl; refine OKx_callB (f := 43) rfl rfl rfl (fun w1 hp => hG w1 hp.below) ?_ ?_ <;> intro q3; (try exact absurd ⟨by assumption, q2, q3⟩ h0))|(apply OKx_nilK)|(apply thenQ_r)|(apply OK_condT;exact rfl)|(apply OK_ret)|(apply OKx_move;(conv=>lhs;whnf)<;>exact rfl)|(apply OKx_assign;(conv=>lhs;whnf)<;>exact rfl)|(apply OKx_neq;exact rfl;exact rfl;all_goals (intro _; try (exfalso;omega)))|(apply OKx_pickT;exact rfl;(conv=>lhs;whnf)<;>exact rfl)|(apply OKx_pickF;exact rfl;(conv=>lhs;whnf)<;>exact rfl)|(apply OKx_guardT;exact rfl;exact rfl)|(apply OKx_guardF;exact rfl;exact rfl)|(apply OKx_notT;exact rfl)|(apply OKx_notF;exact rfl)|(apply OKx_boxA;exact rfl;intro _)|(apply OKx_ldBA;exact rfl; (apply atP;constructor);exact rfl))
    all_goals
      refine bodyQ_r2 (by ((conv=>lhs;whnf)<;>exact rfl)) (by ((conv=>lhs;whnf)<;>exact rfl)) ?_
      exact ⟨_, Ent.mk fun w1 h1 => (h1.none).nil _ _, _, rfl, rfl⟩
end Go.Proofs.YthnlnffmmioapaaGreatDoor
