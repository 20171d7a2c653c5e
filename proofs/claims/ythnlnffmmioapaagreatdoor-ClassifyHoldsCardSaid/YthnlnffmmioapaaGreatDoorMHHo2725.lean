/-
  Part 25 of the proof: Fn27, Ip27, Pr07. No statement of the seat is proved here.
-/
import Derived.Test.YthnlnffmmioapaaGreatDoorMHHo2724
namespace Go.Proofs.YthnlnffmmioapaaGreatDoor
open Go.RowKit
section
variable {B : Nat} {w0 w : World} {L : List Res}
theorem Hp.sl2 (h : Hp B w0 w L) (i : Nat) {e : TypeId} {sz g n cap : Nat} {xs : List Value} (hi : L[i]? = some (.row e sz (.slice (some ⟨g, 0, .none⟩) n cap) n xs)) (hn : n ≤ 140737488355328) (hl : xs.length = n * sz) :
    Sl2 w (.slice (some ⟨g, 0, .none⟩) n cap) sz n (fun j c => xs.getD (j * sz + c) undef) := by
  refine ⟨hn, _, _, rfl, .inr ⟨g, 0, rfl, fun j hj c hc => ?_⟩⟩
  have hk : j * sz + c < n * sz := by
    have : (j + 1) * sz ≤ n * sz := Nat.mul_le_mul_right _ (by omega)
    rw [Nat.succ_mul] at this
    omega
  rw [Nat.zero_add, (h.rowAt i hi).1 _ hk]
  show xs[j * sz + c]? = some (xs.getD (j * sz + c) undef)
  rw [List.getD_eq_getElem?_getD, List.getElem?_eq_getElem (by omega)]
  rfl
end
set_option maxRecDepth 100000 in
set_option maxHeartbeats 4000000 in
theorem rd27_sat (a : Option Addr) (k c : Nat) (w : World) : Sat Tryz.prog 27 [.slice a k c] w (fun u L => ∃ g, u = .agg #[.slice a k c, .slice (some ⟨g, 0, none⟩) 1 1] ∧ L = [.row 3 1 (.slice (some ⟨g, 0, none⟩) 1 1) 1 [.int .i64 0]]) := by
  refine SatL.ofC 6 2 33 2 Tryz.func27 (by kernel_rfl) (by kernel_rfl) rfl rfl rfl ?_
  repeat' (first|(apply OK_seq)|(apply thenQ_n)|(apply OK_region)|(apply OKx_nilK)|(apply OK_block)|(apply blockQ_n)|(apply blockQ_s)|(apply thenQ_e)|(apply blockQ_e;exact rfl)|(apply thenQ_r)|(apply blockQ_r)|(apply OK_condT;exact rfl)|(apply OK_condF;exact rfl)|(apply OK_skip)|(apply OK_exit)|(apply OK_ret)|(apply OKx_move;(conv=>lhs;whnf)<;>exact rfl)|(apply OKx_allocA;intro _)|(apply OKx_slit1;(conv=>lhs;whnf)<;>exact rfl;exact rfl;intro _)|(apply OKx_build2;(conv=>lhs;whnf)<;>exact rfl;(conv=>lhs;whnf)<;>exact rfl;exact rfl;exact rfl)|(apply OKx_stBA; kernel_rfl;exact rfl;exact rfl;exact rfl; (apply atP;constructor);exact rfl;exact rfl;exact rfl))
  (apply bodyC_r;exact rfl; (apply atP;constructor);exact rfl)
  · exact ⟨_, Ent.pick [0] rfl, _, rfl, rfl⟩
  · exact rfl
theorem exp_leaf (w : World) (k n : Int) : Exp w (.mk k n ⟨#[]⟩ []) (.agg #[.int .i64 k, .int .i64 n, .string ⟨#[]⟩, .slice none 0 0]) := by
  unfold Exp
  refine ⟨_, fun _ _ => undef, rfl, by decide, ⟨by decide, none, 0, rfl, .inl rfl⟩, ?_⟩
  unfold Exps
  trivial
theorem exp_build1 (k : Int) : Instr.fill ([(0, 1), (1, 1), (2, 1), (3, 1)].toArray[·]?) #[.int .i64 0, .int .i64 0, .string ⟨#[]⟩, .slice none 0 0] [(0, .int .i64 k)] = some #[.int .i64 k, .int .i64 0, .string ⟨#[]⟩, .slice none 0 0] := rfl
theorem exp_build2 (k n : Int) : Instr.fill ([(0, 1), (1, 1), (2, 1), (3, 1)].toArray[·]?) #[.int .i64 0, .int .i64 0, .string ⟨#[]⟩, .slice none 0 0] [(0, .int .i64 k), (1, .int .i64 n)] = some #[.int .i64 k, .int .i64 n, .string ⟨#[]⟩, .slice none 0 0] := rfl
theorem rul_build (s : ByteArray) (k n : Int) : Instr.fill ([(0, 1), (1, 4)].toArray[·]?) #[.string ⟨#[]⟩, .int .i64 0, .int .i64 0, .string ⟨#[]⟩, .slice none 0 0] [(0, .string s), (1, .agg #[.int .i64 k, .int .i64 n, .string ⟨#[]⟩, .slice none 0 0])] = some #[.string s, .int .i64 k, .int .i64 n, .string ⟨#[]⟩, .slice none 0 0] := rfl
def wDeus : ByteArray := ⟨#[100, 101, 117, 115]⟩
def wEst : ByteArray := ⟨#[101, 115, 116]⟩
def wDeuS : ByteArray := ⟨#[68, 101, 117, 115]⟩
def wCelum : ByteArray := ⟨#[99, 101, 108, 117, 109]⟩
def wCaelum : ByteArray := ⟨#[99, 97, 101, 108, 117, 109]⟩
def wGap : ByteArray := ⟨#[103, 97, 112]⟩
theorem levE_same {q : Nat → Nat → Bool} {i k : Nat} (h : q i k = true) : levE q (i + 1) (k + 1) ≤ levE q i k := by
  rw [levE, if_pos h]
  omega
theorem levE_more (q : Nat → Nat → Bool) (i k : Nat) : levE q (i + 1) (k + 1) ≤ levE q (i + 1) k + 1 := by
  rw [levE]
  omega
theorem lev_celum : lev (jnS [wCelum]) (jnS [wCaelum]) ≤ 1 := by
  show levE (byEq (jnS [wCelum]) (jnS [wCaelum])) 5 6 ≤ 1
  have h0 : levE (byEq (jnS [wCelum]) (jnS [wCaelum])) 0 0 = 0 := by rw [levE]
  have h1 : levE (byEq (jnS [wCelum]) (jnS [wCaelum])) 1 1 ≤ levE (byEq (jnS [wCelum]) (jnS [wCaelum])) 0 0 := levE_same (by decide +kernel)
  have h2 : levE (byEq (jnS [wCelum]) (jnS [wCaelum])) 1 2 ≤ levE (byEq (jnS [wCelum]) (jnS [wCaelum])) 1 1 + 1 := levE_more _ 0 1
  have h3 : levE (byEq (jnS [wCelum]) (jnS [wCaelum])) 2 3 ≤ levE (byEq (jnS [wCelum]) (jnS [wCaelum])) 1 2 := levE_same (by decide +kernel)
  have h4 : levE (byEq (jnS [wCelum]) (jnS [wCaelum])) 3 4 ≤ levE (byEq (jnS [wCelum]) (jnS [wCaelum])) 2 3 := levE_same (by decide +kernel)
  have h5 : levE (byEq (jnS [wCelum]) (jnS [wCaelum])) 4 5 ≤ levE (byEq (jnS [wCelum]) (jnS [wCaelum])) 3 4 := levE_same (by decide +kernel)
  have h6 : levE (byEq (jnS [wCelum]) (jnS [wCaelum])) 5 6 ≤ levE (byEq (jnS [wCelum]) (jnS [wCaelum])) 4 5 := levE_same (by decide +kernel)
  omega
theorem near_celum : nearB [wCelum] [wCaelum] 1 = true := by
  unfold nearB
  have := lev_celum
  rw [decide_eq_true (show max (jnS [wCelum]).length (jnS [wCaelum]).length ≤ 256 by decide +kernel), decide_eq_true (show ((lev (jnS [wCelum]) (jnS [wCaelum]) : Nat) : Int) ≤ 1 by omega)]
  rfl
theorem aw1 : hldB (.mk 4 0 ⟨#[]⟩ []) [wDeus, wEst] ⟨[wEst, wDeus], [0]⟩ = true ∧ hldE (.mk 4 0 ⟨#[]⟩ []) [wDeus, wEst] ⟨[wEst, wDeus], [0]⟩ = 0 := by decide +kernel
theorem aw2 : hldB (.mk 4 0 ⟨#[]⟩ []) [wEst, wDeus] ⟨[wDeuS, wEst], [0]⟩ = false ∧ hldE (.mk 4 0 ⟨#[]⟩ []) [wEst, wDeus] ⟨[wDeuS, wEst], [0]⟩ = 0 := by decide +kernel
theorem aw3 : hldB (.mk 5 1 ⟨#[]⟩ []) [wCelum] ⟨[wCaelum], [0]⟩ = true ∧ hldE (.mk 5 1 ⟨#[]⟩ []) [wCelum] ⟨[wCaelum], [0]⟩ = 0 := by
  have e : hldE (.mk 5 1 ⟨#[]⟩ []) [wCelum] ⟨[wCaelum], [0]⟩ = 0 := by decide +kernel
  refine ⟨?_, e⟩
  rw [hldB_ok e, hd_leaf _ _ _ _ _ _ (by decide)]
  exact near_celum
theorem aw4 : claN [⟨wGap, .mk 1 0 ⟨#[]⟩ []⟩] [wEst] ⟨[], []⟩ = wGap ∧ claE [⟨wGap, .mk 1 0 ⟨#[]⟩ []⟩] [wEst] ⟨[], []⟩ = 0 := by decide +kernel
theorem awH (k n : Int) (b ws : List ByteArray) (bv wv sv : Value) (w : World) (a : Bool) (e : hldB (.mk k n ⟨#[]⟩ []) b ⟨ws, [0]⟩ = a ∧ hldE (.mk k n ⟨#[]⟩ []) b ⟨ws, [0]⟩ = 0) (hB : Strs w bv b) (hW : Strs w wv ws) (hS : Ints w sv [0]) (hkd : KdL w) (hkf : KfL w) :
    SatV Tryz.prog 9 [.agg #[.int .i64 k, .int .i64 n, .string ⟨#[]⟩, .slice none 0 0], bv, .agg #[wv, sv]] w (.tuple #[.bool a, .int .i64 0]) := by
  have := Holds_sat _ bv (.agg #[wv, sv]) (.mk k n ⟨#[]⟩ []) b ⟨ws, [0]⟩ w (exp_leaf w k n) hB ⟨_, _, rfl, hW, hS⟩ hkd hkf
  rwa [e.1, e.2] at this
theorem Strs.nil27 (w : World) : Strs w (.slice none 0 0) [] := ⟨⟨by simp, ⟨_, _, rfl, .inl rfl⟩, fun a m c h => by simp only [Value.slice.injEq] at h;omega⟩, by simp⟩
theorem awC (bv : Value) (g : Nat) (w : World) (hs : Sl2 w (.slice (some ⟨g, 0, none⟩) 1 1) 5 1 (fun j c => [Value.string wGap, .int .i64 1, .int .i64 0, .string ⟨#[]⟩, .slice none 0 0].getD (j * 5 + c) undef)) (hB : Strs w bv [wEst]) (hkd : KdL w) (hkf : KfL w) (ht : TbL w) :
    SatV Tryz.prog 19 [.slice (some ⟨g, 0, none⟩) 1 1, bv, .agg #[.slice none 0 0, .slice none 0 0]] w (.tuple #[.string wGap, .int .i64 0]) := by
  have := Class_sat (.slice (some ⟨g, 0, none⟩) 1 1) bv (.agg #[.slice none 0 0, .slice none 0 0]) [⟨wGap, .mk 1 0 ⟨#[]⟩ []⟩] [wEst] ⟨[], []⟩ w ⟨_, hs, fun j hj => by
    obtain rfl : j = 0 := by simp at hj;omega
    exact ⟨_, _, _, _, rfl, exp_leaf w 1 0, (by decide : wGap.size ≤ 140737488355328)⟩, fun a k c e => by cases e; exact Nat.le_refl _⟩ hB ⟨_, _, rfl, Strs.nil27 w, Ints.nil w⟩ hkd hkf ht
  rwa [aw4.1, aw4.2] at this
set_option maxRecDepth 100000 in
set_option maxHeartbeats 4000000 in
theorem awake27_sat (w : World) (hkd : KdL w) (hkf : KfL w) (ht : TbL w) : SatV Tryz.prog 8 [] w (.bool true) := by
  refine SatL.of 62 [0] Tryz.func8 (by kernel_rfl) (by kernel_rfl) rfl rfl rfl rfl ?_
  repeat' (first|(apply OK_seq)|(apply thenQ_n)|(apply OK_region)|(apply OKx_gc 27;exact rfl; refine OKx_call (f := 27) rfl rfl (fun w1 hp => rd27_sat _ _ _ w1) ?_; rintro _ _ ⟨gI, rfl, rfl⟩; rw [List.cons_append, List.nil_append])|(refine OKx_buildG [(0, .int .i64 4)] #[.int .i64 4, .int .i64 0, .string ⟨#[]⟩, .slice none 0 0] rfl (exp_build1 4) ?_)|(refine OKx_buildG [(0, .int .i64 1)] #[.int .i64 1, .int .i64 0, .string ⟨#[]⟩, .slice none 0 0] rfl (exp_build1 1) ?_)|(refine OKx_buildG [(0, .int .i64 5), (1, .int .i64 1)] #[.int .i64 5, .int .i64 1, .string ⟨#[]⟩, .slice none 0 0] rfl (exp_build2 5 1) ?_)|(refine OKx_buildG [(0, .string wGap), (1, .agg #[.int .i64 1, .int .i64 0, .string ⟨#[]⟩, .slice none 0 0])] #[.string wGap, .int .i64 1, .int .i64 0, .string ⟨#[]⟩, .slice none 0 0] rfl (rul_build wGap 1 0) ?_)|(apply OKx_gt; refine OKx_slit1A (cs := [.string wGap, .int .i64 1, .int .i64 0, .string ⟨#[]⟩, .slice none 0 0]) rfl rfl rfl ?_; intro gR)|(apply OKx_gc 9;exact rfl; refine OKx_callV (f := 9) (v := .tuple #[.bool true, .int .i64 0]) rfl rfl rfl (fun w1 hp => awH 4 0 [wDeus, wEst] [wEst, wDeus] _ _ _ w1 true aw1 (hp.strs 2 rfl (by decide) (by decide)) (hp.strs 1 rfl (by decide) (by decide)) (hp.ints 0 rfl (by decide)) (hkd.below hp.below) (hkf.below hp.below)) ?_)|(apply OKx_gc 9;exact rfl; refine OKx_callV (f := 9) (v := .tuple #[.bool false, .int .i64 0]) rfl rfl rfl (fun w1 hp => awH 4 0 [wEst, wDeus] [wDeuS, wEst] _ _ _ w1 false aw2 (hp.strs 2 rfl (by decide) (by decide)) (hp.strs 1 rfl (by decide) (by decide)) (hp.ints 0 rfl (by decide)) (hkd.below hp.below) (hkf.below hp.below)) ?_)|(apply OKx_gc 9;exact rfl; refine OKx_callV (f := 9) (v := .tuple #[.bool true, .int .i64 0]) rfl rfl rfl (fun w1 hp => awH 5 1 [wCelum] [wCaelum] _ _ _ w1 true aw3 (hp.strs 2 rfl (by decide) (by decide)) (hp.strs 1 rfl (by decide) (by decide)) (hp.ints 0 rfl (by decide)) (hkd.below hp.below) (hkf.below hp.below)) ?_)|(apply OKx_gc 19;exact rfl; refine OKx_callV (f := 19) (v := .tuple #[.string wGap, .int .i64 0]) rfl rfl rfl (fun w1 hp => awC _ _ w1 (hp.sl2 1 rfl (by decide) rfl) (hp.strs 0 rfl (by decide) (by decide)) (hkd.below hp.below) (hkf.below hp.below) (ht.below hp.below)) ?_)|(apply OKx_gb; refine OKx_max4 (r := 0) rfl rfl rfl rfl (by decide) ?_)|(apply OKx_nilK)|(apply OK_block)|(apply blockQ_n)|(apply blockQ_s)|(apply thenQ_e)|(apply blockQ_e;exact rfl)|(apply thenQ_r)|(apply blockQ_r)|(apply OK_condT;exact rfl)|(apply OK_condF;exact rfl)|(apply OK_skip)|(apply OK_exit)|(apply OK_ret)|(apply OKx_move;(conv=>lhs;whnf)<;>exact rfl)|(apply OKx_assign;(conv=>lhs;whnf)<;>exact rfl)|(apply OKx_eql;exact rfl;exact rfl;all_goals (intro _; try (exfalso;omega)))|(apply OKx_seql;exact rfl;exact rfl; all_goals intro _)|(apply OKx_max;exact rfl;exact rfl)|(apply OKx_pickT;exact rfl;(conv=>lhs;whnf)<;>exact rfl)|(apply OKx_pickF;exact rfl;(conv=>lhs;whnf)<;>exact rfl)|(apply OKx_guardT;exact rfl;exact rfl)|(apply OKx_guardF;exact rfl;exact rfl)|(apply OKx_guardU;exact rfl;exact rfl)|(apply OKx_notT;exact rfl)|(apply OKx_notF;exact rfl)|(apply OKx_extract;exact rfl;(conv=>lhs;whnf)<;>exact rfl)|(apply OKx_slit1;(conv=>lhs;whnf)<;>exact rfl;exact rfl;intro _)|(apply OKx_slit2;(conv=>lhs;whnf)<;>exact rfl;(conv=>lhs;whnf)<;>exact rfl;exact rfl;exact rfl;intro _)|(apply OKx_build2;(conv=>lhs;whnf)<;>exact rfl;(conv=>lhs;whnf)<;>exact rfl;exact rfl;exact rfl)|(apply OKx_build0))
  all_goals first
    | ((refine bodyQ_r1 (by ((conv=>lhs;whnf)<;>exact rfl)) ?_)
       exact ⟨_, Ent.nil, rfl, rfl⟩)
    | (exfalso; apply_assumption; rfl)
end Go.Proofs.YthnlnffmmioapaaGreatDoor
namespace Go.Proofs.YthnlnffmmioapaaGreatDoor
open Go.RowKit
theorem bnot_f {b : Bool} (h : (!b) = false) : b = true := by cases b <;> first | rfl | cases h
set_option maxRecDepth 100000 in
set_option maxHeartbeats 4000000 in
theorem imp1_sat (v : Value) (r : Rdn) (w : World) (h : RdnV w r v) : SatV Tryz.prog 37 [v] w (.bool (!rdgB r)) := by
  have hG := fun w1 (hb : Below w.heap.size w w1) => reading_sat v r w1 (h.below hb)
  obtain ⟨wv, sv, rfl, _, _⟩ := h
  refine SatL.of 6 [2] Tryz.func37 (by kernel_rfl) (by kernel_rfl) rfl rfl rfl rfl ?_
  repeat' (first|(apply OK_seq)|(apply thenQ_n)|(apply OK_region)|(apply OKx_gc 30;exact rfl; refine OKx_callB (f := 30) rfl rfl rfl (fun w1 hp => hG w1 hp.below) ?_ ?_ <;> intro hq)|(apply OKx_nilK)|(apply OK_block)|(apply blockQ_n)|(apply blockQ_s)|(apply thenQ_e)|(apply blockQ_e;exact rfl)|(apply thenQ_r)|(apply blockQ_r)|(apply OK_condT;exact rfl)|(apply OK_condF;exact rfl)|(apply OK_skip)|(apply OK_exit)|(apply OK_ret)|(apply OKx_assign;(conv=>lhs;whnf)<;>exact rfl)|(apply OKx_notT;exact rfl)|(apply OKx_notF;exact rfl)|(apply OKx_boxA;exact rfl;intro _)|(apply OKx_ldBA;exact rfl; (apply atP;constructor);exact rfl)|(apply OKx_ldRA;(conv=>lhs;whnf)<;>exact rfl;(with_reducible assumption)))
  all_goals
    refine bodyQ_r1 (by ((conv=>lhs;whnf)<;>exact rfl)) ?_
    exact ⟨_, Ent.nil, by rw [hq]; rfl, rfl⟩
set_option maxRecDepth 100000 in
set_option maxHeartbeats 4000000 in
theorem imp2_sat (x y : Cnd) (rv xp yp pb px py : Value) (ba : Option Addr) (bc : Nat) (b : List ByteArray) (r : Rdn) (w : World) (hR : RdnV w r rv) (hB : Strs w (.slice ba b.length bc) b)
    (hX : Exp w x (.agg #[.int .i64 x.kind, .int .i64 x.num, .string x.text, xp])) (hY : Exp w y (.agg #[.int .i64 y.kind, .int .i64 y.num, .string y.text, yp]))
    (hpb : Pt1 w pb (.slice ba b.length bc)) (hpx : Pt w px 4 (fun j => [.int .i64 x.kind, .int .i64 x.num, .string x.text, xp].getD j undef)) (hpy : Pt w py 4 (fun j => [.int .i64 y.kind, .int .i64 y.num, .string y.text, yp].getD j undef))
    (hkf : KfL w) (hb : wdsB b = true) (hr : rdgB r = true) (hxo : x.own = true) (hyo : y.own = true) :
    SatV Tryz.prog 38 [rv, pb, px, py] w (.bool (x.hd b r.words r.src.length && !y.hd b r.words r.src.length)) := by
  obtain ⟨wv, sv, rfl, hW, hS⟩ := hR
  obtain ⟨wa, wc, rfl, _⟩ := hW.at
  obtain ⟨sa, sc, rfl, _⟩ := hS.at
  have hQ : QueV w b r (.agg #[.slice ba b.length bc, .slice wa r.words.length wc, .slice sa r.src.length sc]) := ⟨_, _, _, rfl, hB, hW, hS⟩
  have hx := fun w1 (h : Below w.heap.size w w1) => holds_sat _ x (Nat.le_refl _) hxo _ _ b r w1 (hX.below h) (hQ.below h) (hkf.below h) hb hr
  have hy := fun w1 (h : Below w.heap.size w w1) => holds_sat _ y (Nat.le_refl _) hyo _ _ b r w1 (hY.below h) (hQ.below h) (hkf.below h) hb hr
  cases h1 : x.hd b r.words r.src.length <;> cases h2 : y.hd b r.words r.src.length
  all_goals
    rw [h1] at hx
    rw [h2] at hy
    refine SatL.of 19 [5] Tryz.func38 (by kernel_rfl) (by kernel_rfl) rfl rfl rfl rfl ?_
    repeat' (first|(apply OK_seq)|(apply thenQ_n)|(apply OK_region)|(apply OKx_gl; refine OKx_ldR rfl hpb ?_)|(apply OKx_gl; refine OKx_ldRA rfl hpx ?_)|(apply OKx_gl; refine OKx_ldRA rfl hpy ?_)|(refine OKx_buildG [(0, .slice ba b.length bc), (1, .agg #[.slice wa r.words.length wc, .slice sa r.src.length sc])] #[.slice ba b.length bc, .slice wa r.words.length wc, .slice sa r.src.length sc] rfl (que_build _ _ _ _ _ _ _ _ _) ?_)|(apply OKx_gc 31;exact rfl; refine OKx_callV (f := 31) rfl rfl rfl (fun w1 hp => hx w1 hp.below) ?_)|(apply OKx_gc 31;exact rfl; refine OKx_callV (f := 31) rfl rfl rfl (fun w1 hp => hy w1 hp.below) ?_)|(apply OKx_nilK)|(apply OK_block)|(apply blockQ_n)|(apply blockQ_s)|(apply thenQ_e)|(apply blockQ_e;exact rfl)|(apply thenQ_r)|(apply blockQ_r)|(apply OK_condT;exact rfl)|(apply OK_condF;exact rfl)|(apply OK_skip)|(apply OK_exit)|(apply OK_ret)|(apply OKx_move;(conv=>lhs;whnf)<;>exact rfl)|(apply OKx_assign;(conv=>lhs;whnf)<;>exact rfl)|(apply OKx_ldB;exact rfl; (apply atP;constructor);exact rfl)|(apply OKx_ldR;(conv=>lhs;whnf)<;>exact rfl;(with_reducible assumption))|(apply OKx_pickT;exact rfl;(conv=>lhs;whnf)<;>exact rfl)|(apply OKx_pickF;exact rfl;(conv=>lhs;whnf)<;>exact rfl)|(apply OKx_guardT;exact rfl;exact rfl)|(apply OKx_guardF;exact rfl;exact rfl)|(apply OKx_guardU;exact rfl;exact rfl)|(apply OKx_notT;exact rfl)|(apply OKx_notF;exact rfl)|(apply OKx_boxA;exact rfl;intro _)|(apply OKx_allocA;intro _)|(apply OKx_ldBA;exact rfl; (apply atP;constructor);exact rfl)|(apply OKx_ldRA;(conv=>lhs;whnf)<;>exact rfl;(with_reducible assumption))|(apply OKx_build2;(conv=>lhs;whnf)<;>exact rfl;(conv=>lhs;whnf)<;>exact rfl;exact rfl;exact rfl)|(apply OKx_stBA; kernel_rfl;exact rfl;exact rfl;exact rfl; (apply atP;constructor);exact rfl;exact rfl;exact rfl))
    refine bodyQ_r1 (by ((conv=>lhs;whnf)<;>exact rfl)) ?_
    exact ⟨_, Ent.nil, rfl, rfl⟩
set_option maxRecDepth 100000 in
set_option maxHeartbeats 4000000 in
theorem Implies_sat (xv yv bv lv : Value) (x y : Cnd) (b : List ByteArray) (l : List Rdn) (w : World) (hX : Exp w x xv) (hY : Exp w y yv) (hB : Strs w bv b) (hL : Rdns w lv l) (hkd : KdL w) (hkf : KfL w) :
    SatV Tryz.prog 11 [xv, yv, bv, lv] w (.tuple #[.bool (impB x y b l), .int .i64 (impE x y b l)]) := by
  have hCx := fun w1 (h : Below w.heap.size w w1) => condition_sat xv x w1 (hX.below h) (hkd.below h)
  have hCy := fun w1 (h : Below w.heap.size w w1) => condition_sat yv y w1 (hY.below h) (hkd.below h)
  have hW := fun w1 (h : Below w.heap.size w w1) => words_sat bv b w1 (hB.below h)
  have hX0 := hX
  have hY0 := hY
  obtain ⟨xp, gx, rfl, _⟩ := hX.shape
  obtain ⟨yp, gy, rfl, _⟩ := hY.shape
  obtain ⟨ba, bc, rfl, hbl, _⟩ := hB.at
  obtain ⟨g, hS, hE⟩ := hL
  obtain ⟨hbd, la, lc, rfl, _⟩ := id hS
  have hG : ∀ w1, Below w.heap.size w w1 → SatV Tryz.prog 36 [.slice la l.length lc, .func (.func 37) #[] #[]] w1 (.bool (!(l.all rdgB))) := fun w1 hb => by
    have := containsF_rdn_sat _ l.length g (fun j => !rdgB (l.getD j default)) 37 #[] w1 (hS.below hb) (fun j hj w2 hb2 => by
      rw [show l.getD j default = l[j] from getD_lt _ _ _ hj]
      exact imp1_sat _ _ w2 (((hE j hj).below hb).below hb2))
    rwa [anyN_nots (f := rdgB) (fun j hj => by rw [getD_lt _ _ _ hj])] at this
  by_cases h4 : 4096 < l.length
  · have e0 : impE x y b l = 4 := if_pos h4
    have e1 : impB x y b l = false := by unfold impB; rw [e0]; rfl
    rw [e0, e1]
    refine SatL.of 34 [8, 9] Tryz.func11 (by kernel_rfl) (by kernel_rfl) rfl rfl rfl rfl ?_
    repeat' (first|(apply OK_seq)|(apply thenQ_n)|(apply OK_region)|(apply OKx_nilK)|(apply OK_block)|(apply blockQ_n)|(apply blockQ_s)|(apply thenQ_e)|(apply blockQ_e;exact rfl)|(apply thenQ_r)|(apply blockQ_r)|(apply OK_condT;exact rfl)|(apply OK_condF;exact rfl)|(apply OK_skip)|(apply OK_exit)|(apply OK_ret)|(apply OKx_move;(conv=>lhs;whnf)<;>exact rfl)|(apply OKx_assign;(conv=>lhs;whnf)<;>exact rfl)|(apply OKx_ldB;exact rfl; (apply atP;constructor);exact rfl)|(apply OKx_ldR;(conv=>lhs;whnf)<;>exact rfl;(with_reducible assumption))|(apply OKx_len;exact rfl)|(apply OKx_lenR;(conv=>lhs;whnf)<;>exact rfl;(with_reducible assumption))|(apply OKx_lenR2;(conv=>lhs;whnf)<;>exact rfl;(with_reducible assumption))|(apply OKx_lenO;(conv=>lhs;whnf)<;>exact rfl; (apply atP;constructor))|(apply OKx_gtr;exact rfl;exact rfl;all_goals (intro _; try (exfalso;omega)))|(apply OKx_pickT;exact rfl;(conv=>lhs;whnf)<;>exact rfl)|(apply OKx_pickF;exact rfl;(conv=>lhs;whnf)<;>exact rfl)|(apply OKx_guardT;exact rfl;exact rfl)|(apply OKx_guardF;exact rfl;exact rfl)|(apply OKx_guardU;exact rfl;exact rfl)|(apply OKx_notT;exact rfl)|(apply OKx_notF;exact rfl)|(apply OKx_boxA;exact rfl;intro _)|(apply OKx_ldBA;exact rfl; (apply atP;constructor);exact rfl)|(apply OKx_ldRA;(conv=>lhs;whnf)<;>exact rfl;(with_reducible assumption))|(apply OKx_box1;(conv=>lhs;whnf)<;>exact rfl;exact rfl;intro _)|(apply OKx_func;exact rfl;exact rfl))
    all_goals (try (exfalso;omega))
    refine bodyQ_r2 (by ((conv=>lhs;whnf)<;>exact rfl)) (by ((conv=>lhs;whnf)<;>exact rfl)) ?_
    exact ⟨_, Ent.nil, rfl, rfl⟩
  by_cases h0 : rgtE x = 0 ∧ rgtE y = 0 ∧ wdsB b = true ∧ l.all rdgB = true
  · have e0 : impE x y b l = 0 := by unfold impE; rw [if_neg h4, if_pos h0]
    obtain ⟨hx0, hy0, hb0, hr0⟩ := h0
    have hF : ∀ w1 g6 g4 g5, Below w.heap.size w w1 → w1.cell? ⟨g6, 0, none⟩ = some (.slice ba b.length bc) → Pt w1 (.pointer (some ⟨g4, 0, none⟩)) 4 (fun j => [.int .i64 x.kind, .int .i64 x.num, .string x.text, xp].getD j undef) → Pt w1 (.pointer (some ⟨g5, 0, none⟩)) 4 (fun j => [.int .i64 y.kind, .int .i64 y.num, .string y.text, yp].getD j undef) →
        SatV Tryz.prog 36 [.slice la l.length lc, .func (.func 38) #[] #[.pointer (some ⟨g6, 0, none⟩), .pointer (some ⟨g4, 0, none⟩), .pointer (some ⟨g5, 0, none⟩)]] w1 (.bool (!(impB x y b l))) := fun w1 g6 g4 g5 hb h6 h4 h5 => by
      have := containsF_rdn_sat _ l.length g (fun j => x.hd b (l.getD j default).words (l.getD j default).src.length && !y.hd b (l.getD j default).words (l.getD j default).src.length) 38 #[.pointer (some ⟨g6, 0, none⟩), .pointer (some ⟨g4, 0, none⟩), .pointer (some ⟨g5, 0, none⟩)] w1 (hS.below hb) (fun j hj w2 hb2 => by
        rw [show l.getD j default = l[j] from getD_lt _ _ _ hj]
        exact imp2_sat x y _ xp yp _ _ _ ba bc b l[j] w2 (((hE j hj).below hb).below hb2) ((hB.below hb).below hb2) ((hX0.below hb).below hb2) ((hY0.below hb).below hb2) (Pt1.below ⟨_, _, rfl, h6⟩ hb2) (h4.belowQ hb2) (h5.belowQ hb2) ((hkf.below hb).below hb2) hb0 (List.all_eq_true.1 hr0 _ (List.getElem_mem hj)) (rgtE_zero hx0).2 (rgtE_zero hy0).2)
      have e : anyN (fun j => x.hd b (l.getD j default).words (l.getD j default).src.length && !y.hd b (l.getD j default).words (l.getD j default).src.length) l.length = !(impB x y b l) := by
        unfold impB
        rw [decide_eq_true e0, Bool.true_and]
        exact anyN_nots (f := fun r : Rdn => !(x.hd b r.words r.src.length && !y.hd b r.words r.src.length)) (fun j hj => by rw [getD_lt _ _ _ hj, Bool.not_not])
      rwa [e] at this
    rw [hx0, decide_eq_true rfl] at hCx
    rw [hy0, decide_eq_true rfl] at hCy
    rw [hb0] at hW
    rw [hr0] at hG
    rw [e0]
    refine SatL.of 34 [8, 9] Tryz.func11 (by kernel_rfl) (by kernel_rfl) rfl rfl rfl rfl ?_
    repeat' (first|(apply OK_seq)|(apply thenQ_n)|(apply OK_region)|(apply OKx_gc 28;exact rfl; refine OKx_callV (f := 28) rfl rfl rfl (fun w1 hp => hCx w1 hp.below) ?_)|(apply OKx_gc 28;exact rfl; refine OKx_callV (f := 28) rfl rfl rfl (fun w1 hp => hCy w1 hp.below) ?_)|(apply OKx_gc 29;exact rfl; refine OKx_callV (f := 29) rfl rfl rfl (fun w1 hp => hW w1 hp.below) ?_)|(apply OKx_gc 36;exact rfl; refine OKx_callV (f := 36) rfl rfl rfl (fun w1 hp => hG w1 hp.below) ?_)|(apply OKx_gc 36;exact rfl; refine OKx_callB (f := 36) rfl rfl rfl (fun w1 hp => hF w1 _ _ _ hp.below ((hp.boxAt 0 rfl).1 0) ⟨_, _, rfl, fun j hj => by rw [Nat.zero_add, (hp.boxAt 2 rfl).1 j]; simp [hj]⟩ ⟨_, _, rfl, fun j hj => by rw [Nat.zero_add, (hp.boxAt 1 rfl).1 j]; simp [hj]⟩) ?_ ?_ <;> intro hq)|(apply OKx_nilK)|(apply OK_block)|(apply blockQ_n)|(apply blockQ_s)|(apply thenQ_e)|(apply blockQ_e;exact rfl)|(apply thenQ_r)|(apply blockQ_r)|(apply OK_condT;exact rfl)|(apply OK_condF;exact rfl)|(apply OK_skip)|(apply OK_exit)|(apply OK_ret)|(apply OKx_move;(conv=>lhs;whnf)<;>exact rfl)|(apply OKx_assign;(conv=>lhs;whnf)<;>exact rfl)|(apply OKx_ldB;exact rfl; (apply atP;constructor);exact rfl)|(apply OKx_ldR;(conv=>lhs;whnf)<;>exact rfl;(with_reducible assumption))|(apply OKx_len;exact rfl)|(apply OKx_lenR;(conv=>lhs;whnf)<;>exact rfl;(with_reducible assumption))|(apply OKx_lenR2;(conv=>lhs;whnf)<;>exact rfl;(with_reducible assumption))|(apply OKx_lenO;(conv=>lhs;whnf)<;>exact rfl; (apply atP;constructor))|(apply OKx_gtr;exact rfl;exact rfl;all_goals (intro _; try (exfalso;omega)))|(apply OKx_pickT;exact rfl;(conv=>lhs;whnf)<;>exact rfl)|(apply OKx_pickF;exact rfl;(conv=>lhs;whnf)<;>exact rfl)|(apply OKx_guardT;exact rfl;exact rfl)|(apply OKx_guardF;exact rfl;exact rfl)|(apply OKx_guardU;exact rfl;exact rfl)|(apply OKx_notT;exact rfl)|(apply OKx_notF;exact rfl)|(apply OKx_boxA;exact rfl;intro _)|(apply OKx_ldBA;exact rfl; (apply atP;constructor);exact rfl)|(apply OKx_ldRA;(conv=>lhs;whnf)<;>exact rfl;(with_reducible assumption))|(apply OKx_box1;(conv=>lhs;whnf)<;>exact rfl;exact rfl;intro _)|(apply OKx_func;exact rfl;exact rfl))
    all_goals (try (exfalso;omega))
    all_goals
      refine bodyQ_r2 (by ((conv=>lhs;whnf)<;>exact rfl)) (by ((conv=>lhs;whnf)<;>exact rfl)) ?_
      exact ⟨_, Ent.nil, (by cases h9 : impB x y b l <;> rw [h9] at hq <;> first | rfl | (cases hq)), rfl⟩
  · have e0 : impE x y b l = 1 := by unfold impE; rw [if_neg h4, if_neg h0]
    have e1 : impB x y b l = false := by unfold impB; rw [e0]; rfl
    rw [e0, e1]
    refine SatL.of 34 [8, 9] Tryz.func11 (by kernel_rfl) (by kernel_rfl) rfl rfl rfl rfl ?_
    repeat' (first|(apply OK_seq)|(apply thenQ_n)|(apply OK_region)|(apply OKx_gc 28;exact rfl; refine OKx_callB (f := 28) rfl rfl rfl (fun w1 hp => hCx w1 hp.below) ?_ ?_ <;> intro q1)|(apply OKx_gc 28;exact rfl; refine OKx_callB (f := 28) rfl rfl rfl (fun w1 hp => hCy w1 hp.below) ?_ ?_ <;> intro q2)|(apply OKx_gc 29;exact rfl; refine OKx_callB (f := 29) rfl rfl rfl (fun w1 hp => hW w1 hp.below) ?_ ?_ <;> intro q3)|(apply OKx_gc 36;exact rfl; refine OKx_callB (f := 36) rfl rfl rfl (fun w1 hp => hG w1 hp.below) ?_ ?_ <;> intro q4)|(apply OKx_nilK)|(apply OK_block)|(apply blockQ_n)|(apply blockQ_s)|(apply thenQ_e)|(apply blockQ_e;exact rfl)|(apply thenQ_r)|(apply blockQ_r)|(apply OK_condT;exact rfl)|(apply OK_condF;exact rfl)|(apply OK_skip)|(apply OK_exit)|(apply OK_ret)|(apply OKx_move;(conv=>lhs;whnf)<;>exact rfl)|(apply OKx_assign;(conv=>lhs;whnf)<;>exact rfl)|(apply OKx_ldB;exact rfl; (apply atP;constructor);exact rfl)|(apply OKx_ldR;(conv=>lhs;whnf)<;>exact rfl;(with_reducible assumption))|(apply OKx_len;exact rfl)|(apply OKx_lenR;(conv=>lhs;whnf)<;>exact rfl;(with_reducible assumption))|(apply OKx_lenR2;(conv=>lhs;whnf)<;>exact rfl;(with_reducible assumption))|(apply OKx_lenO;(conv=>lhs;whnf)<;>exact rfl; (apply atP;constructor))|(apply OKx_gtr;exact rfl;exact rfl;all_goals (intro _; try (exfalso;omega)))|(apply OKx_pickT;exact rfl;(conv=>lhs;whnf)<;>exact rfl)|(apply OKx_pickF;exact rfl;(conv=>lhs;whnf)<;>exact rfl)|(apply OKx_guardT;exact rfl;exact rfl)|(apply OKx_guardF;exact rfl;exact rfl)|(apply OKx_guardU;exact rfl;exact rfl)|(apply OKx_notT;exact rfl)|(apply OKx_notF;exact rfl)|(apply OKx_boxA;exact rfl;intro _)|(apply OKx_ldBA;exact rfl; (apply atP;constructor);exact rfl)|(apply OKx_ldRA;(conv=>lhs;whnf)<;>exact rfl;(with_reducible assumption))|(apply OKx_box1;(conv=>lhs;whnf)<;>exact rfl;exact rfl;intro _)|(apply OKx_func;exact rfl;exact rfl))
    all_goals (try (exfalso;omega))
    all_goals first
      | ((refine bodyQ_r2 (by ((conv=>lhs;whnf)<;>exact rfl)) (by ((conv=>lhs;whnf)<;>exact rfl)) ?_)
         exact ⟨_, Ent.nil, rfl, rfl⟩)
      | exact absurd ⟨of_decide_eq_true q1, of_decide_eq_true q2, q3, bnot_f q4⟩ h0
end Go.Proofs.YthnlnffmmioapaaGreatDoor
namespace Go.Proofs.YthnlnffmmioapaaGreatDoor
open Go.RowKit
theorem tw_lt {f : UInt8 → Bool} : ∀ (l : List UInt8) (j : Nat), j < (l.takeWhile f).length → f (l.getD j 0) = true
  | [], j, h => by simp at h
  | x :: l, j, h => by
    rw [List.takeWhile_cons] at h
    by_cases hx : f x = true
    · rw [if_pos hx] at h
      cases j with
      | zero => exact hx
      | succ j =>
        rw [List.length_cons] at h
        exact tw_lt l j (by omega)
    · rw [if_neg hx] at h
      simp at h
theorem tw_at {f : UInt8 → Bool} : ∀ (l : List UInt8), (l.takeWhile f).length < l.length → f (l.getD (l.takeWhile f).length 0) = false
  | [], h => by simp at h
  | x :: l, h => by
    by_cases hx : f x = true
    · have e : (x :: l).takeWhile f = x :: l.takeWhile f := by rw [List.takeWhile_cons, if_pos hx]
      rw [e] at h ⊢
      rw [List.length_cons] at h ⊢
      exact tw_at l (by simpa using h)
    · have e : (x :: l).takeWhile f = [] := by rw [List.takeWhile_cons, if_neg hx]
      rw [e]
      simpa using hx
theorem close_lt {p : List UInt8} {j : Nat} (h : j < closeI p) : (p.getD j 0).toNat ≠ 93 := fun e => by
  have := tw_lt p j h
  rw [decide_eq_true_eq] at this
  exact this (UInt8.toNat_inj.1 e)
theorem close_at {p : List UInt8} (h : closeI p < p.length) : (p.getD (closeI p) 0).toNat = 93 := by
  have := tw_at p h
  rw [decide_eq_false_iff_not, Decidable.not_not] at this
  unfold closeI
  rw [this]
  rfl
theorem inner_all {p : List UInt8} : (inner p).all chrB = true ↔ ∀ j, 1 ≤ j → j < closeI p → chrB (p.getD j 0) = true := by
  have hc := closeI_le p
  rw [List.all_eq_true]
  unfold inner
  constructor
  · intro h j h1 h2
    refine h _ ?_
    refine List.mem_of_getElem? (i := j - 1) ?_
    rw [List.getElem?_drop, show 1 + (j - 1) = j by omega, List.getElem?_take_of_lt h2, getD_lt _ _ _ (by omega)]
    exact List.getElem?_eq_getElem _
  · intro h c hm
    obtain ⟨i, hi, rfl⟩ := List.getElem_of_mem hm
    rw [List.length_drop, List.length_take] at hi
    have := h (1 + i) (by omega) (by omega)
    rw [getD_lt _ _ _ (by omega)] at this
    rw [List.getElem_drop, List.getElem_take]
    exact this
def elN (p : List UInt8) : Nat := if elErr p = 0 then elLen p else 0
theorem head_ne {p : List UInt8} (h : p ≠ []) : ∃ c r, p = c :: r := by
  cases p with
  | nil => exact absurd rfl h
  | cons c r => exact ⟨c, r, rfl⟩
theorem chr_63 : chrB 63 = true := by kernel_rfl
theorem chr_42 : chrB 42 = true := by kernel_rfl
theorem el_93 {r : List UInt8} : elErr (93 :: r) = 3 := by
  unfold elErr
  dsimp only
  rw [if_neg (by decide), if_neg (by decide), if_pos rfl]
theorem el_one {c : UInt8} {r : List UInt8} (h1 : c ≠ 91) (h2 : c ≠ 93) (h : chrB c = true) : elErr (c :: r) = 0 ∧ elLen (c :: r) = 1 := by
  unfold elErr elLen
  dsimp only
  rw [if_neg h1]
  refine ⟨?_, if_neg h1⟩
  by_cases hq : c = 63 ∨ c = 42
  · rw [if_pos hq]
  · rw [if_neg hq, if_neg h2]
    unfold chrB at h
    rw [Bool.or_eq_true, decide_eq_true_eq] at h
    rcases h with h | h
    · rw [if_pos h]
    · exact absurd (.inr h) hq
theorem el_bad {c : UInt8} {r : List UInt8} (h1 : c ≠ 91) (h2 : c ≠ 93) (h : chrB c = false) : elErr (c :: r) = 11 := by
  unfold elErr
  dsimp only
  have hq : ¬ (c = 63 ∨ c = 42) := by
    rintro (rfl | rfl)
    · rw [chr_63] at h; cases h
    · rw [chr_42] at h; cases h
  rw [if_neg hq, if_neg h1, if_neg h2]
  unfold chrB at h
  rw [Bool.or_eq_false_iff] at h
  rw [if_neg (by rw [h.1]; decide)]
theorem el_91 {r : List UInt8} : elErr (91 :: r) = (if closeI (91 :: r) = (91 :: r).length ∨ closeI (91 :: r) < 2 then 3 else if (inner (91 :: r)).all chrB then 0 else 11) ∧ elLen (91 :: r) = closeI (91 :: r) + 1 := by
  unfold elErr elLen
  dsimp only
  rw [if_neg (by decide), if_pos rfl, if_pos rfl]
  exact ⟨rfl, rfl⟩
theorem close_91 {r : List UInt8} : 1 ≤ closeI (91 :: r) := by
  unfold closeI
  rw [List.takeWhile_cons, if_pos (by decide), List.length_cons]
  omega
end Go.Proofs.YthnlnffmmioapaaGreatDoor
