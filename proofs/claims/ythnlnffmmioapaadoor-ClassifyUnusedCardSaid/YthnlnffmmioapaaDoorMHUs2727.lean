/-
  Part 27 of the proof: Ln27, Open, OpenS. No statement of the seat is proved here.
-/
import Derived.Test.YthnlnffmmioapaaDoorMHUs2726
import Derived.ProofKit
import Derived.SizedLaws
import Derived.Deep.Strs
import Derived.ChangeMaps5
namespace Go.Proofs.YthnlnffmmioapaaDoor
open Go.RowKit
theorem inB_iff (xs : List ByteArray) (x : ByteArray) : (xs.any fun y => decide (y = x)) = Lib.containsS xs x := by
  rw [Bool.eq_iff_iff, Lib.containsS_iff, List.any_eq_true]
  constructor
  · rintro ⟨y, hy, e⟩
    rw [← of_decide_eq_true e]
    exact hy
  · intro h
    exact ⟨x, h, decide_eq_true rfl⟩
set_option maxRecDepth 100000 in
set_option maxHeartbeats 4000000 in
theorem conU_sat (v : Value) (xs : List ByteArray) (x : ByteArray) (w : World) (h : Strs w v xs) : SatV Tryd.prog 26 [v, .string x] w (.bool (xs.any fun y => decide (y = x))) := by
  rw [inB_iff]
  exact Sat.lib ⟨_, _, Tryd.func26, by kernel_rfl, rfl⟩ fun w1 hb => (contains_str v xs x w1 (h.below hb)).mono fun e w' ⟨h1, h2⟩ => by
    subst h2
    exact ⟨_, [], h1, Hp.refl w1, rfl, rfl⟩
theorem unu2_len (rs : List Rul) (f s : List ByteArray) (a b : List Rdn) : unuE rs [f, s] [a, b] = if untE rs f a = 0 ∧ untE rs s b = 0 then 0 else 1 := by
  unfold unuE
  rw [if_neg (by simp)]
  by_cases h : untE rs f a = 0 ∧ untE rs s b = 0
  · obtain ⟨h1, h2⟩ := id h
    obtain ⟨x1, x2, x3⟩ := untE_zero.1 h1
    obtain ⟨y1, y2, y3⟩ := untE_zero.1 h2
    rw [if_pos h, if_pos ⟨x1, by simp [x2, y2], by simp only [List.all_cons, List.all_nil, x3, y3, Bool.and_true]⟩]
    rfl
  · rw [if_neg h, if_neg]
    rintro ⟨h1, h2, h3⟩
    simp only [List.all_cons, List.all_nil, Bool.and_true, Bool.and_eq_true] at h2 h3
    exact h ⟨untE_zero.2 ⟨h1, h2.1, h3.1⟩, untE_zero.2 ⟨h1, h2.2, h3.2⟩⟩
theorem usd2 (rs : List Rul) (f s : List ByteArray) (a b : List Rdn) : usdN rs [f, s] [a, b] 2 = unN rs f a ++ unN rs s b := by
  rw [show (2 : Nat) = 0 + 1 + 1 from rfl, usdN_step, usdN_step]
  rfl
theorem any_app (x y : List ByteArray) (s : ByteArray) : ((x ++ y).any fun z => decide (z = s)) = ((x.any fun z => decide (z = s)) || (y.any fun z => decide (z = s))) := List.any_append
set_option maxRecDepth 100000 in
set_option maxHeartbeats 4000000 in
theorem ClassifyUnused_sat (lv fv sv av bv : Value) (rs : List Rul) (f s : List ByteArray) (a b : List Rdn) (w : World) (hR : Ruls w lv rs) (hf : Strs w fv f) (hs : Strs w sv s) (ha : Rdns w av a) (hb : Rdns w bv b) (hkd : KdL w) (hkf : KfL w) (ht : TbL w) : SatV Tryd.prog 9 [lv, fv, sv, av, bv] w (.bool true) := by
  have hA := fun w1 (h : Below w.heap.size w w1) => awake27_sat w1 (hkd.below h) (hkf.below h) (ht.below h)
  have hG := fun w1 (h : Below w.heap.size w w1) => greatL_sat lv rs w1 (hR.below h)
  have hF1 := fun w1 (h : Below w.heap.size w w1) => fine27_sat fv av (.slice none 0 0) f a [] (fun _ _ => undef) w1 (hf.below h) (ha.below h) (sl2_none w1 4 _) (fun j hj => absurd hj (by simp)) (hkd.below h)
  have hF2 := fun w1 (h : Below w.heap.size w w1) => fine27_sat sv bv (.slice none 0 0) s b [] (fun _ _ => undef) w1 (hs.below h) (hb.below h) (sl2_none w1 4 _) (fun j hj => absurd hj (by simp)) (hkd.below h)
  have hU1 := fun w1 (h : Below w.heap.size w w1) hl => Unit_sat lv fv (.int .i64 0) (.int .i64 0) av rs f a w1 (hR.below h) (hf.below h) (ha.below h) (hkd.below h) (hkf.below h) (ht.below h) hl
  have hU2 := fun w1 (h : Below w.heap.size w w1) hl => Unit_sat lv sv (.int .i64 0) (.int .i64 0) bv rs s b w1 (hR.below h) (hs.below h) (hb.below h) (hkd.below h) (hkf.below h) (ht.below h) hl
  have hN := fun w1 (h : Below w.heap.size w w1) => Names_sat lv rs w1 (hR.below h)
  have hUn := fun w1 (p q : Nat) (h : Below w.heap.size w w1) (hsl : Sl w1 (.slice (some ⟨p, 0, none⟩) 2 2) 1 2 (fun j => [fv, sv].getD j undef)) (hsu : Sl2 w1 (.slice (some ⟨q, 0, none⟩) 2 2) 3 2 (fun j c => [.int .i64 0, .int .i64 0, av, .int .i64 0, .int .i64 0, bv].getD (j * 3 + c) undef)) (hl : a.length ≤ 6 ∧ b.length ≤ 6) =>
    Unused_sat lv (.slice (some ⟨p, 0, none⟩) 2 2) (.slice (some ⟨q, 0, none⟩) 2 2) rs [f, s] [a, b] w1 (hR.below h) ⟨_, hsl, fun j hj => by
      have : j = 0 ∨ j = 1 := by simp at hj;omega
      rcases this with rfl | rfl
      · exact hf.below h
      · exact hs.below h⟩ ⟨_, hsu, fun j hj => by
      have : j = 0 ∨ j = 1 := by simp at hj;omega
      rcases this with rfl | rfl
      · exact ⟨0, 0, av, rfl, ha.below h⟩
      · exact ⟨0, 0, bv, rfl, hb.below h⟩⟩ (hkd.below h) (hkf.below h) (ht.below h) (fun u hu => by
      simp only [List.mem_cons, List.not_mem_nil, or_false] at hu
      rcases hu with rfl | rfl <;> omega)
  obtain ⟨gr, hSr, _⟩ := hR
  obtain ⟨hrb, ra, rc, rfl, _⟩ := id hSr
  obtain ⟨fa, fc, rfl, _⟩ := hf.at
  obtain ⟨sa, sc, rfl, _⟩ := hs.at
  obtain ⟨ga, hSa, _⟩ := ha
  obtain ⟨hab, aa, ac, rfl, _⟩ := id hSa
  obtain ⟨gb, hSb, _⟩ := hb
  obtain ⟨hbb, ba, bc, rfl, _⟩ := id hSb
  by_cases hmain : grtL rs = false ∧ rs.length ≤ 5 ∧ finB f a [] = true ∧ finB s b [] = true
  rotate_left
  · refine SatL.of 123 [10] Tryd.func9 (by kernel_rfl) (by kernel_rfl) rfl rfl rfl rfl ?_
    repeat' (first|(apply OK_seq)|(apply thenQ_n)|(apply OK_region)|(apply OKx_gc 16;exact rfl; refine OKx_callB (f := 16) rfl rfl rfl (fun w1 hp => hG w1 hp.below) ?_ ?_ <;> intro q1)|(apply OKx_gc 10;exact rfl; refine OKx_callB (f := 10) rfl rfl rfl (fun w1 hp => hF1 w1 hp.below) ?_ ?_ <;> intro q2)|(apply OKx_gc 10;exact rfl; refine OKx_callB (f := 10) rfl rfl rfl (fun w1 hp => hF2 w1 hp.below) ?_ ?_ <;> intro q3)|(apply OKx_gc 11;exact rfl; refine OKx_callV (f := 11) rfl rfl rfl (fun w1 hp => hA w1 hp.below) ?_)|(apply OKx_nilK)|(apply OK_block)|(apply blockQ_n)|(apply blockQ_s)|(apply thenQ_e)|(apply blockQ_e;exact rfl)|(apply thenQ_r)|(apply blockQ_r)|(apply OK_condT;exact rfl)|(apply OK_condF;exact rfl)|(apply OK_skip)|(apply OK_exit)|(apply OK_ret)|(apply OKx_move;(conv=>lhs;whnf)<;>exact rfl)|(apply OKx_assign;(conv=>lhs;whnf)<;>exact rfl)|(apply OKx_ldB;exact rfl;(first | exact at0|exact at1|exact at2|exact at3|exact at4|exact at5|exact at6|exact at7);exact rfl)|(apply OKx_ldR;(conv=>lhs;whnf)<;>exact rfl;(with_reducible assumption))|(apply OKx_len;exact rfl)|(apply OKx_lenR;(conv=>lhs;whnf)<;>exact rfl;(with_reducible assumption))|(apply OKx_lenR2;(conv=>lhs;whnf)<;>exact rfl;(with_reducible assumption))|(apply OKx_lenO;(conv=>lhs;whnf)<;>exact rfl;(first | exact at0|exact at1|exact at2|exact at3|exact at4|exact at5|exact at6|exact at7))|(apply OKx_lss;exact rfl;exact rfl;all_goals (intro _; try (exfalso;omega)))|(apply OKx_gtr;exact rfl;exact rfl;all_goals (intro _; try (exfalso;omega)))|(apply OKx_eql;exact rfl;exact rfl;all_goals (intro _; try (exfalso;omega)))|(apply OKx_neq;exact rfl;exact rfl;all_goals (intro _; try (exfalso;omega)))|(apply OKx_idxO;exact rfl;exact rfl;omega)|(apply OKx_idxR;(conv=>lhs;whnf)<;>exact rfl;(with_reducible assumption);exact rfl;omega;intro _ _)|(apply OKx_idxR2;(conv=>lhs;whnf)<;>exact rfl;(with_reducible assumption);exact rfl;omega;intro _ _)|(apply OKx_idxOz;exact rfl;exact rfl;omega;omega)|(apply OKx_idxRz;(conv=>lhs;whnf)<;>exact rfl;(with_reducible assumption);exact rfl;omega;omega;intro _ _)|(apply OKx_inc;exact rfl;exact rfl;omega)|(apply OKx_addN;exact rfl;exact rfl;omega)|(apply OKx_add;exact rfl;exact rfl;omega;omega)|(apply OKx_max;exact rfl;exact rfl)|(apply OKx_pickT;exact rfl;(conv=>lhs;whnf)<;>exact rfl)|(apply OKx_pickF;exact rfl;(conv=>lhs;whnf)<;>exact rfl)|(apply OKx_guardT;exact rfl;exact rfl)|(apply OKx_guardF;exact rfl;exact rfl)|(apply OKx_guardU;exact rfl;exact rfl)|(apply OKx_notT;exact rfl)|(apply OKx_notF;exact rfl)|(apply OKx_extract;exact rfl;(conv=>lhs;whnf)<;>exact rfl)|(apply OKx_ldBA;exact rfl;(first | exact at0|exact at1|exact at2|exact at3|exact at4|exact at5|exact at6|exact at7);exact rfl)|(apply OKx_ldRA;(conv=>lhs;whnf)<;>exact rfl;(with_reducible assumption))|(apply OKx_slit1;(conv=>lhs;whnf)<;>exact rfl;exact rfl;intro _)|(apply OKx_slit2;(conv=>lhs;whnf)<;>exact rfl;(conv=>lhs;whnf)<;>exact rfl;exact rfl;exact rfl;intro _))
    all_goals first
      | ((refine bodyQ_r1 (by ((conv=>lhs;whnf)<;>exact rfl)) ?_)
         exact ⟨_, Ent.nil, rfl, rfl⟩)
      | (exfalso;omega)
      | exact absurd ⟨q1, by omega, q2, q3⟩ hmain
  obtain ⟨m1, m2, m3, m4⟩ := hmain
  have hl1 := (finB_yes m3).2.2.1
  have hl2 := (finB_yes m4).2.2.1
  rw [m1] at hG
  rw [m3] at hF1
  rw [m4] at hF2
  have hcat : ∀ i, i < 2 * 1 → ([.slice fa f.length fc, .slice sa s.length sc] : List Value)[i]? = some (([.slice fa f.length fc, .slice sa s.length sc] : List Value).getD i undef) := fun i hi => by
    have hi2 : i = 0 ∨ i = 1 := by omega
    rcases hi2 with rfl | rfl <;> rfl
  have b1 := untE_bd rs f a
  have b2 := untE_bd rs s b
  unfold UntR at hU1 hU2
  unfold UnuR at hUn
  rw [unu2_len] at hUn
  by_cases hz : untE rs f a = 0 ∧ untE rs s b = 0
  rotate_left
  · rw [if_neg hz, show unuL rs [f, s] [a, b] = [] from if_neg (by rw [unu2_len, if_neg hz]; decide)] at hUn
    have hUn2 : ∀ w1 (p q : Nat), _ → _ → _ → _ → Sat Tryd.prog 24 _ w1 (fun u L => ∃ v, u = .tuple #[v, .int .i64 1] ∧ L = [.row 9 1 v 0 []]) := hUn
    generalize untE rs f a = E1 at hU1 b1 hz
    generalize untE rs s b = E2 at hU2 b2 hz
    have hm : max (max 1 E1) E2 = 1 := by omega
    refine SatL.of 123 [10] Tryd.func9 (by kernel_rfl) (by kernel_rfl) rfl rfl rfl rfl ?_
    repeat' (first|(apply OK_seq)|(apply thenQ_n)|(apply OK_region)|(apply OKx_gc 16;exact rfl; refine OKx_callV (f := 16) rfl rfl rfl (fun w1 hp => hG w1 hp.below) ?_)|(apply OKx_gc 10;exact rfl; refine OKx_callV (f := 10) rfl rfl rfl (fun w1 hp => hF1 w1 hp.below) ?_)|(apply OKx_gc 10;exact rfl; refine OKx_callV (f := 10) rfl rfl rfl (fun w1 hp => hF2 w1 hp.below) ?_)|(apply OKx_gc 11;exact rfl; refine OKx_callV (f := 11) rfl rfl rfl (fun w1 hp => hA w1 hp.below) ?_)|(refine OKx_buildG [(2, .slice aa a.length ac)] #[.int .i64 0, .int .i64 0, .slice aa a.length ac] rfl (uni_build aa _ ac) ?_)|(refine OKx_buildG [(2, .slice ba b.length bc)] #[.int .i64 0, .int .i64 0, .slice ba b.length bc] rfl (uni_build ba _ bc) ?_)|(apply OKx_gt; refine OKx_slit (sz := 3) (vs := [.agg #[.int .i64 0, .int .i64 0, .slice aa a.length ac], .agg #[.int .i64 0, .int .i64 0, .slice ba b.length bc]]) (cs := [[.int .i64 0, .int .i64 0, .slice aa a.length ac], [.int .i64 0, .int .i64 0, .slice ba b.length bc]]) [.int .i64 0, .int .i64 0, .slice aa a.length ac, .int .i64 0, .int .i64 0, .slice ba b.length bc] rfl rfl rfl rfl rfl rfl ?_; intro gU)|(apply OKx_gc 24;exact rfl; refine OKx_call (f := 24) rfl rfl (fun w1 hp => hUn2 w1 _ _ hp.below (hp.sl 0 rfl (by decide) hcat) (hp.sl2 1 rfl (by decide) rfl) ⟨hl1, hl2⟩) ?_; rintro _ _ ⟨v12, rfl, rfl⟩; rw [List.cons_append, List.nil_append])|(apply OKx_gi; refine OKx_idxOn (i := 0) rfl rfl (by decide) ?_)|(apply OKx_gi; refine OKx_idxOn (i := 1) rfl rfl (by decide) ?_)|(apply OKx_gl; refine OKx_ldWA (vs := [.int .i64 0, .int .i64 0, .slice aa a.length ac]) 2 rfl rfl (by decide) rfl (fun j hj => by rcases j with _ | _ | _ | j <;> first | rfl | omega) ?_)|(apply OKx_gl; refine OKx_ldWA (vs := [.int .i64 0, .int .i64 0, .slice ba b.length bc]) 3 rfl rfl (by decide) rfl (fun j hj => by rcases j with _ | _ | _ | j <;> first | rfl | omega) ?_)|(apply OKx_gc 21;exact rfl; refine OKx_call (f := 21) rfl rfl (fun w1 hp => hU1 w1 hp.below (by omega)) ?_; rintro _ _ ⟨v14, rfl, rfl⟩; rw [List.cons_append, List.nil_append])|(apply OKx_gc 21;exact rfl; refine OKx_call (f := 21) rfl rfl (fun w1 hp => hU2 w1 hp.below (by omega)) ?_; rintro _ _ ⟨v16, rfl, rfl⟩; rw [List.cons_append, List.nil_append])|(apply OKx_gb; refine OKx_max3 rfl rfl rfl hm ?_)|(apply OKx_gn; refine OKx_beqT Tryd.underlying4 rfl rfl ?_)|(apply OKx_nilK)|(apply OK_block)|(apply blockQ_n)|(apply blockQ_s)|(apply thenQ_e)|(apply blockQ_e;exact rfl)|(apply thenQ_r)|(apply blockQ_r)|(apply OK_condT;exact rfl)|(apply OK_condF;exact rfl)|(apply OK_skip)|(apply OK_exit)|(apply OK_ret)|(apply OKx_move;(conv=>lhs;whnf)<;>exact rfl)|(apply OKx_assign;(conv=>lhs;whnf)<;>exact rfl)|(apply OKx_ldB;exact rfl;(first | exact at0|exact at1|exact at2|exact at3|exact at4|exact at5|exact at6|exact at7);exact rfl)|(apply OKx_ldR;(conv=>lhs;whnf)<;>exact rfl;(with_reducible assumption))|(apply OKx_len;exact rfl)|(apply OKx_lenR;(conv=>lhs;whnf)<;>exact rfl;(with_reducible assumption))|(apply OKx_lenR2;(conv=>lhs;whnf)<;>exact rfl;(with_reducible assumption))|(apply OKx_lenO;(conv=>lhs;whnf)<;>exact rfl;(first | exact at0|exact at1|exact at2|exact at3|exact at4|exact at5|exact at6|exact at7))|(apply OKx_lss;exact rfl;exact rfl;all_goals (intro _; try (exfalso;omega)))|(apply OKx_gtr;exact rfl;exact rfl;all_goals (intro _; try (exfalso;omega)))|(apply OKx_eql;exact rfl;exact rfl;all_goals (intro _; try (exfalso;omega)))|(apply OKx_neq;exact rfl;exact rfl;all_goals (intro _; try (exfalso;omega)))|(apply OKx_idxO;exact rfl;exact rfl;omega)|(apply OKx_idxR;(conv=>lhs;whnf)<;>exact rfl;(with_reducible assumption);exact rfl;omega;intro _ _)|(apply OKx_idxR2;(conv=>lhs;whnf)<;>exact rfl;(with_reducible assumption);exact rfl;omega;intro _ _)|(apply OKx_idxOz;exact rfl;exact rfl;omega;omega)|(apply OKx_idxRz;(conv=>lhs;whnf)<;>exact rfl;(with_reducible assumption);exact rfl;omega;omega;intro _ _)|(apply OKx_inc;exact rfl;exact rfl;omega)|(apply OKx_addN;exact rfl;exact rfl;omega)|(apply OKx_add;exact rfl;exact rfl;omega;omega)|(apply OKx_max;exact rfl;exact rfl)|(apply OKx_pickT;exact rfl;(conv=>lhs;whnf)<;>exact rfl)|(apply OKx_pickF;exact rfl;(conv=>lhs;whnf)<;>exact rfl)|(apply OKx_guardT;exact rfl;exact rfl)|(apply OKx_guardF;exact rfl;exact rfl)|(apply OKx_guardU;exact rfl;exact rfl)|(apply OKx_notT;exact rfl)|(apply OKx_notF;exact rfl)|(apply OKx_extract;exact rfl;(conv=>lhs;whnf)<;>exact rfl)|(apply OKx_ldBA;exact rfl;(first | exact at0|exact at1|exact at2|exact at3|exact at4|exact at5|exact at6|exact at7);exact rfl)|(apply OKx_ldRA;(conv=>lhs;whnf)<;>exact rfl;(with_reducible assumption))|(apply OKx_slit1;(conv=>lhs;whnf)<;>exact rfl;exact rfl;intro _)|(apply OKx_slit2;(conv=>lhs;whnf)<;>exact rfl;(conv=>lhs;whnf)<;>exact rfl;exact rfl;exact rfl;intro _))
    all_goals (try (exfalso;omega))
    all_goals
      refine bodyQ_r1 (by ((conv=>lhs;whnf)<;>exact rfl)) ?_
      exact ⟨_, Ent.nil, rfl, rfl⟩
  obtain ⟨z1, z2⟩ := id hz
  have zr := (untE_zero.1 z1).1
  rw [if_pos hz, show unuL rs [f, s] [a, b] = nseL (unN rs f a ++ unN rs s b) (namL rs) by
    unfold unuL
    rw [if_pos (by rw [unu2_len, if_pos hz]), ← usd2]
    rfl] at hUn
  rw [z1, show untL rs f a = unN rs f a from if_pos z1] at hU1
  rw [z2, show untL rs s b = unN rs s b from if_pos z2] at hU2
  have n1 := unN_len rs f a
  have n2 := unN_len rs s b
  have s1 := unN_size zr f a
  have s2 := unN_size zr s b
  have hnk : ∀ x ∈ namL rs, x.size ≤ 140737488355328 := fun x hx => by
    obtain ⟨y, hy, rfl⟩ := List.mem_map.1 hx
    have := isNm_size (rulE_ok zr y hy).1
    omega
  have hnn := namL_len rs
  have hNm := fun w1 (h : Below w.heap.size w w1) => hN w1 h (by omega)
  generalize unN rs f a = X at hUn hU1 n1 s1
  generalize unN rs s b = Y at hUn hU2 n2 s2
  generalize namL rs = M at hUn hNm hnk hnn
  have hns : ∀ x ∈ nseL (X ++ Y) M, x.size ≤ 140737488355328 := fun x hx => hnk x (List.mem_filter.1 hx).1
  have hnl := nse_le (X ++ Y) M
  have hUn2 : ∀ w1 (p q : Nat), _ → _ → _ → _ → Sat Tryd.prog 24 _ w1 (fun u L => ∃ v, u = .tuple #[v, .int .i64 0] ∧ L = [.row 9 1 v (nseL (X ++ Y) M).length (strs (nseL (X ++ Y) M))]) := hUn
  refine SatL.of 123 [10] Tryd.func9 (by kernel_rfl) (by kernel_rfl) rfl rfl rfl rfl ?_
  repeat' (first|(apply OK_seq)|(apply thenQ_n)|(apply OK_region)|(apply OKx_gc 16;exact rfl; refine OKx_callV (f := 16) rfl rfl rfl (fun w1 hp => hG w1 hp.below) ?_)|(apply OKx_gc 10;exact rfl; refine OKx_callV (f := 10) rfl rfl rfl (fun w1 hp => hF1 w1 hp.below) ?_)|(apply OKx_gc 10;exact rfl; refine OKx_callV (f := 10) rfl rfl rfl (fun w1 hp => hF2 w1 hp.below) ?_)|(apply OKx_gc 11;exact rfl; refine OKx_callV (f := 11) rfl rfl rfl (fun w1 hp => hA w1 hp.below) ?_)|(refine OKx_buildG [(2, .slice aa a.length ac)] #[.int .i64 0, .int .i64 0, .slice aa a.length ac] rfl (uni_build aa _ ac) ?_)|(refine OKx_buildG [(2, .slice ba b.length bc)] #[.int .i64 0, .int .i64 0, .slice ba b.length bc] rfl (uni_build ba _ bc) ?_)|(apply OKx_gt; refine OKx_slit (sz := 3) (vs := [.agg #[.int .i64 0, .int .i64 0, .slice aa a.length ac], .agg #[.int .i64 0, .int .i64 0, .slice ba b.length bc]]) (cs := [[.int .i64 0, .int .i64 0, .slice aa a.length ac], [.int .i64 0, .int .i64 0, .slice ba b.length bc]]) [.int .i64 0, .int .i64 0, .slice aa a.length ac, .int .i64 0, .int .i64 0, .slice ba b.length bc] rfl rfl rfl rfl rfl rfl ?_; intro gU)|(apply OKx_gc 24;exact rfl; refine OKx_call (f := 24) rfl rfl (fun w1 hp => hUn2 w1 _ _ hp.below (hp.sl 0 rfl (by decide) hcat) (hp.sl2 1 rfl (by decide) rfl) ⟨hl1, hl2⟩) ?_; rintro _ _ ⟨v12, rfl, rfl⟩; rw [List.cons_append, List.nil_append])|(apply OKx_gi; refine OKx_idxOn (i := 0) rfl rfl (by decide) ?_)|(apply OKx_gi; refine OKx_idxOn (i := 1) rfl rfl (by decide) ?_)|(apply OKx_gl; refine OKx_ldWA (vs := [.int .i64 0, .int .i64 0, .slice aa a.length ac]) 2 rfl rfl (by decide) rfl (fun j hj => by rcases j with _ | _ | _ | j <;> first | rfl | omega) ?_)|(apply OKx_gl; refine OKx_ldWA (vs := [.int .i64 0, .int .i64 0, .slice ba b.length bc]) 3 rfl rfl (by decide) rfl (fun j hj => by rcases j with _ | _ | _ | j <;> first | rfl | omega) ?_)|(apply OKx_gc 21;exact rfl; refine OKx_call (f := 21) rfl rfl (fun w1 hp => hU1 w1 hp.below (by omega)) ?_; rintro _ _ ⟨v14, rfl, rfl⟩; rw [List.cons_append, List.nil_append])|(apply OKx_gc 21;exact rfl; refine OKx_call (f := 21) rfl rfl (fun w1 hp => hU2 w1 hp.below (by omega)) ?_; rintro _ _ ⟨v16, rfl, rfl⟩; rw [List.cons_append, List.nil_append])|(apply OKx_gb; refine OKx_max3 (r := 0) rfl rfl rfl (by decide) ?_)|(apply OKx_gn; refine OKx_beqT Tryd.underlying4 rfl rfl ?_)|(apply OKx_gc 25;exact rfl; refine OKx_call (f := 25) rfl rfl (fun w1 hp => hNm w1 hp.below) ?_; rintro u8 _ rfl; rw [List.cons_append, List.nil_append])|(apply OKx_nilK)|(apply OK_block)|(apply blockQ_n)|(apply blockQ_s)|(apply thenQ_e)|(apply blockQ_e;exact rfl)|(apply thenQ_r)|(apply blockQ_r)|(apply OK_condT;exact rfl)|(apply OK_condF;exact rfl)|(apply OK_skip)|(apply OK_exit)|(apply OK_ret)|(apply OKx_move;(conv=>lhs;whnf)<;>exact rfl)|(apply OKx_assign;(conv=>lhs;whnf)<;>exact rfl)|(apply OKx_ldB;exact rfl;(first | exact at0|exact at1|exact at2|exact at3|exact at4|exact at5|exact at6|exact at7);exact rfl)|(apply OKx_ldR;(conv=>lhs;whnf)<;>exact rfl;(with_reducible assumption))|(apply OKx_len;exact rfl)|(apply OKx_lenR;(conv=>lhs;whnf)<;>exact rfl;(with_reducible assumption))|(apply OKx_lenR2;(conv=>lhs;whnf)<;>exact rfl;(with_reducible assumption))|(apply OKx_lenO;(conv=>lhs;whnf)<;>exact rfl;(first | exact at0|exact at1|exact at2|exact at3|exact at4|exact at5|exact at6|exact at7))|(apply OKx_lss;exact rfl;exact rfl;all_goals (intro _; try (exfalso;omega)))|(apply OKx_gtr;exact rfl;exact rfl;all_goals (intro _; try (exfalso;omega)))|(apply OKx_eql;exact rfl;exact rfl;all_goals (intro _; try (exfalso;omega)))|(apply OKx_neq;exact rfl;exact rfl;all_goals (intro _; try (exfalso;omega)))|(apply OKx_idxO;exact rfl;exact rfl;omega)|(apply OKx_idxR;(conv=>lhs;whnf)<;>exact rfl;(with_reducible assumption);exact rfl;omega;intro _ _)|(apply OKx_idxR2;(conv=>lhs;whnf)<;>exact rfl;(with_reducible assumption);exact rfl;omega;intro _ _)|(apply OKx_idxOz;exact rfl;exact rfl;omega;omega)|(apply OKx_idxRz;(conv=>lhs;whnf)<;>exact rfl;(with_reducible assumption);exact rfl;omega;omega;intro _ _)|(apply OKx_inc;exact rfl;exact rfl;omega)|(apply OKx_addN;exact rfl;exact rfl;omega)|(apply OKx_add;exact rfl;exact rfl;omega;omega)|(apply OKx_max;exact rfl;exact rfl)|(apply OKx_pickT;exact rfl;(conv=>lhs;whnf)<;>exact rfl)|(apply OKx_pickF;exact rfl;(conv=>lhs;whnf)<;>exact rfl)|(apply OKx_guardT;exact rfl;exact rfl)|(apply OKx_guardF;exact rfl;exact rfl)|(apply OKx_guardU;exact rfl;exact rfl)|(apply OKx_notT;exact rfl)|(apply OKx_notF;exact rfl)|(apply OKx_extract;exact rfl;(conv=>lhs;whnf)<;>exact rfl)|(apply OKx_ldBA;exact rfl;(first | exact at0|exact at1|exact at2|exact at3|exact at4|exact at5|exact at6|exact at7);exact rfl)|(apply OKx_ldRA;(conv=>lhs;whnf)<;>exact rfl;(with_reducible assumption))|(apply OKx_slit1;(conv=>lhs;whnf)<;>exact rfl;exact rfl;intro _)|(apply OKx_slit2;(conv=>lhs;whnf)<;>exact rfl;(conv=>lhs;whnf)<;>exact rfl;exact rfl;exact rfl;intro _))
  all_goals (try (exfalso;omega))
  refine OK_loop2 18 98 [18, 20, 98, 99, 100, 101, 102, 103, 104, 105, 106, 107, 108, 109, 110, 111, 112, 113, 114, 115, 116] (fun m2 v18 v98 L => ∃ j : Nat, j + m2 = M.length ∧ v98 = .int .i64 (j : Int) ∧ L = [.row 9 1 v18 (nseL (X ++ Y) (M.take j)).length (strs (nseL (X ++ Y) (M.take j))), .row 9 1 u8 M.length (strs M), .row 9 1 v16 Y.length (strs Y), .row 9 1 v14 X.length (strs X), .row 9 1 v12 (nseL (X ++ Y) M).length (strs (nseL (X ++ Y) M))]) M.length _
    ((Ent.pick [0, 1, 2, 3] rfl).trans (Ent.mk fun w1 h1 => h1.nil _ _)) ⟨0, by omega, rfl, rfl⟩ ?_
  rintro m2 v18 v98 L G2 ⟨j, hm2, rfl, rfl⟩
  by_cases hj : j < M.length
  · refine OK_world27 fun w1 hw1 => ?_
    obtain ⟨gq, cq, rfl⟩ := hw1.rowForm 1 rfl (by omega)
    have hat : (strs M)[j]? = some (.string M[j]) := by
      unfold strs
      rw [List.getElem?_map, List.getElem?_eq_getElem hj]
      rfl
    have hsn := nse_snoc (X ++ Y) (M.take j) M[j]
    rw [← List.take_succ_eq_append_getElem hj, any_app] at hsn
    have hnl2 := nse_le (X ++ Y) (M.take j)
    rw [List.length_take] at hnl2
    have hss := strs_snoc27 (nseL (X ++ Y) (M.take j)) M[j]
    have hks := hnk M[j] (List.getElem_mem hj)
    repeat' (first|(apply OK_seq)|(apply thenQ_n)|(apply OK_region)|(apply OKx_gl; refine OKx_ldW 1 rfl rfl (by omega) hat ?_)|(apply OKx_gc 26;exact rfl; refine OKx_callB (f := 26) (b := X.any fun y => decide (y = M[j])) rfl rfl rfl (fun w1 hp => conU_sat v14 X M[j] w1 (hp.strs 3 rfl (by omega) s1)) ?_ ?_ <;> intro q1)|(apply OKx_gc 26;exact rfl; refine OKx_callB (f := 26) (b := Y.any fun y => decide (y = M[j])) rfl rfl rfl (fun w1 hp => conU_sat v16 Y M[j] w1 (hp.strs 2 rfl (by omega) s2)) ?_ ?_ <;> intro q2)|(apply OKx_gb; refine OKx_append1 1 0 rfl rfl rfl rfl rfl (by omega) (by omega) ?_; intro gr9 cr9)|(apply OKx_nilK)|(apply OK_block)|(apply blockQ_n)|(apply blockQ_s)|(apply thenQ_e)|(apply blockQ_e;exact rfl)|(apply thenQ_r)|(apply blockQ_r)|(apply OK_condT;exact rfl)|(apply OK_condF;exact rfl)|(apply OK_skip)|(apply OK_exit)|(apply OK_ret)|(apply OKx_move;(conv=>lhs;whnf)<;>exact rfl)|(apply OKx_assign;(conv=>lhs;whnf)<;>exact rfl)|(apply OKx_ldB;exact rfl;(first | exact at0|exact at1|exact at2|exact at3|exact at4|exact at5|exact at6|exact at7);exact rfl)|(apply OKx_ldR;(conv=>lhs;whnf)<;>exact rfl;(with_reducible assumption))|(apply OKx_len;exact rfl)|(apply OKx_lenR;(conv=>lhs;whnf)<;>exact rfl;(with_reducible assumption))|(apply OKx_lenR2;(conv=>lhs;whnf)<;>exact rfl;(with_reducible assumption))|(apply OKx_lenO;(conv=>lhs;whnf)<;>exact rfl;(first | exact at0|exact at1|exact at2|exact at3|exact at4|exact at5|exact at6|exact at7))|(apply OKx_lss;exact rfl;exact rfl;all_goals (intro _; try (exfalso;omega)))|(apply OKx_gtr;exact rfl;exact rfl;all_goals (intro _; try (exfalso;omega)))|(apply OKx_eql;exact rfl;exact rfl;all_goals (intro _; try (exfalso;omega)))|(apply OKx_neq;exact rfl;exact rfl;all_goals (intro _; try (exfalso;omega)))|(apply OKx_idxO;exact rfl;exact rfl;omega)|(apply OKx_idxR;(conv=>lhs;whnf)<;>exact rfl;(with_reducible assumption);exact rfl;omega;intro _ _)|(apply OKx_idxR2;(conv=>lhs;whnf)<;>exact rfl;(with_reducible assumption);exact rfl;omega;intro _ _)|(apply OKx_idxOz;exact rfl;exact rfl;omega;omega)|(apply OKx_idxRz;(conv=>lhs;whnf)<;>exact rfl;(with_reducible assumption);exact rfl;omega;omega;intro _ _)|(apply OKx_inc;exact rfl;exact rfl;omega)|(apply OKx_addN;exact rfl;exact rfl;omega)|(apply OKx_add;exact rfl;exact rfl;omega;omega)|(apply OKx_max;exact rfl;exact rfl)|(apply OKx_pickT;exact rfl;(conv=>lhs;whnf)<;>exact rfl)|(apply OKx_pickF;exact rfl;(conv=>lhs;whnf)<;>exact rfl)|(apply OKx_guardT;exact rfl;exact rfl)|(apply OKx_guardF;exact rfl;exact rfl)|(apply OKx_guardU;exact rfl;exact rfl)|(apply OKx_notT;exact rfl)|(apply OKx_notF;exact rfl)|(apply OKx_extract;exact rfl;(conv=>lhs;whnf)<;>exact rfl)|(apply OKx_ldBA;exact rfl;(first | exact at0|exact at1|exact at2|exact at3|exact at4|exact at5|exact at6|exact at7);exact rfl)|(apply OKx_ldRA;(conv=>lhs;whnf)<;>exact rfl;(with_reducible assumption))|(apply OKx_slit1;(conv=>lhs;whnf)<;>exact rfl;exact rfl;intro _)|(apply OKx_slit2;(conv=>lhs;whnf)<;>exact rfl;(conv=>lhs;whnf)<;>exact rfl;exact rfl;exact rfl;intro _))
    all_goals (try (exfalso;omega))
    all_goals first
      | (rw [q1, q2, Bool.or_self, if_neg (by decide)] at hsn
         refine ⟨by (repeat' (first | refine agree_upd rfl ?_ | exact agree_over | exact agree_refl _ _ | refine agree_over2 rfl ?_)), m2 - 1, _, by omega, Ent.pick [1, 2, 3, 4, 5] rfl, ?_⟩
         exact ⟨j + 1, by omega, rfl, by rw [hsn, List.length_append, hss] <;> rfl⟩)
      | (rw [q1, Bool.true_or, if_pos rfl] at hsn
         refine ⟨by (repeat' (first | refine agree_upd rfl ?_ | exact agree_over | exact agree_refl _ _ | refine agree_over2 rfl ?_)), m2 - 1, _, by omega, Ent.refl _ _, ?_⟩
         exact ⟨j + 1, by omega, rfl, by rw [hsn] <;> rfl⟩)
      | (rw [q2, Bool.or_true, if_pos rfl] at hsn
         refine ⟨by (repeat' (first | refine agree_upd rfl ?_ | exact agree_over | exact agree_refl _ _ | refine agree_over2 rfl ?_)), m2 - 1, _, by omega, Ent.refl _ _, ?_⟩
         exact ⟨j + 1, by omega, rfl, by rw [hsn] <;> rfl⟩)
  · obtain rfl : j = M.length := by omega
    rw [List.take_length]
    have hEq := fun w1 h1 h2 => equalB_sat v12 v18 (nseL (X ++ Y) M) (nseL (X ++ Y) M) w1 h1 h2
    rw [decide_eq_true rfl] at hEq
    repeat' (first|(apply OK_seq)|(apply thenQ_n)|(apply OK_region)|(apply OKx_gc 15;exact rfl; refine OKx_callV (f := 15) rfl rfl rfl (fun w1 hp => hEq w1 (hp.strs 4 rfl (by omega) hns) (hp.strs 0 rfl (by omega) hns)) ?_)|(apply OKx_gc 11;exact rfl; refine OKx_callV (f := 11) rfl rfl rfl (fun w1 hp => hA w1 hp.below) ?_)|(apply OKx_nilK)|(apply OK_block)|(apply blockQ_n)|(apply blockQ_s)|(apply thenQ_e)|(apply blockQ_e;exact rfl)|(apply thenQ_r)|(apply blockQ_r)|(apply OK_condT;exact rfl)|(apply OK_condF;exact rfl)|(apply OK_skip)|(apply OK_exit)|(apply OK_ret)|(apply OKx_move;(conv=>lhs;whnf)<;>exact rfl)|(apply OKx_assign;(conv=>lhs;whnf)<;>exact rfl)|(apply OKx_ldB;exact rfl;(first | exact at0|exact at1|exact at2|exact at3|exact at4|exact at5|exact at6|exact at7);exact rfl)|(apply OKx_ldR;(conv=>lhs;whnf)<;>exact rfl;(with_reducible assumption))|(apply OKx_len;exact rfl)|(apply OKx_lenR;(conv=>lhs;whnf)<;>exact rfl;(with_reducible assumption))|(apply OKx_lenR2;(conv=>lhs;whnf)<;>exact rfl;(with_reducible assumption))|(apply OKx_lenO;(conv=>lhs;whnf)<;>exact rfl;(first | exact at0|exact at1|exact at2|exact at3|exact at4|exact at5|exact at6|exact at7))|(apply OKx_lss;exact rfl;exact rfl;all_goals (intro _; try (exfalso;omega)))|(apply OKx_gtr;exact rfl;exact rfl;all_goals (intro _; try (exfalso;omega)))|(apply OKx_eql;exact rfl;exact rfl;all_goals (intro _; try (exfalso;omega)))|(apply OKx_neq;exact rfl;exact rfl;all_goals (intro _; try (exfalso;omega)))|(apply OKx_idxO;exact rfl;exact rfl;omega)|(apply OKx_idxR;(conv=>lhs;whnf)<;>exact rfl;(with_reducible assumption);exact rfl;omega;intro _ _)|(apply OKx_idxR2;(conv=>lhs;whnf)<;>exact rfl;(with_reducible assumption);exact rfl;omega;intro _ _)|(apply OKx_idxOz;exact rfl;exact rfl;omega;omega)|(apply OKx_idxRz;(conv=>lhs;whnf)<;>exact rfl;(with_reducible assumption);exact rfl;omega;omega;intro _ _)|(apply OKx_inc;exact rfl;exact rfl;omega)|(apply OKx_addN;exact rfl;exact rfl;omega)|(apply OKx_add;exact rfl;exact rfl;omega;omega)|(apply OKx_max;exact rfl;exact rfl)|(apply OKx_pickT;exact rfl;(conv=>lhs;whnf)<;>exact rfl)|(apply OKx_pickF;exact rfl;(conv=>lhs;whnf)<;>exact rfl)|(apply OKx_guardT;exact rfl;exact rfl)|(apply OKx_guardF;exact rfl;exact rfl)|(apply OKx_guardU;exact rfl;exact rfl)|(apply OKx_notT;exact rfl)|(apply OKx_notF;exact rfl)|(apply OKx_extract;exact rfl;(conv=>lhs;whnf)<;>exact rfl)|(apply OKx_ldBA;exact rfl;(first | exact at0|exact at1|exact at2|exact at3|exact at4|exact at5|exact at6|exact at7);exact rfl)|(apply OKx_ldRA;(conv=>lhs;whnf)<;>exact rfl;(with_reducible assumption))|(apply OKx_slit1;(conv=>lhs;whnf)<;>exact rfl;exact rfl;intro _)|(apply OKx_slit2;(conv=>lhs;whnf)<;>exact rfl;(conv=>lhs;whnf)<;>exact rfl;exact rfl;exact rfl;intro _))
    all_goals (try (exfalso;omega))
    refine bodyQ_r1 (by ((conv=>lhs;whnf)<;>exact rfl)) ?_
    exact ⟨_, Ent.nil, rfl, rfl⟩
end Go.Proofs.YthnlnffmmioapaaDoor
namespace Go.Proofs.YthnlnffmmioapaaDoor
open Go.RowKit Go.Deep Go.WideShapes
section
variable {H : Type} {enc : TypeId × Value → H} {W : World}
def Light (t : TypeId) (d : DataW H) : Prop := ∀ n ∈ d.weights Tryd.prog t, n ≤ 140737488355328
theorem light_all {e : TypeId} {els : List (DataW H)} {d : DataW H} (hd : d ∈ els) {n : Nat} (hn : n ∈ d.weights Tryd.prog e) : n ∈ DataW.weightsAll Tryd.prog e els := by
  induction els with
  | nil => simp at hd
  | cons a r ih =>
    simp only [DataW.weightsAll, List.mem_append]
    rcases List.mem_cons.1 hd with rfl | h
    · exact .inl hn
    · exact .inr (ih h)
theorem light_slice {t e : TypeId} {els sp : List (DataW H)} (hu : Tryd.prog.underlying t = some (.slice e)) (h : Light t (.slice els sp)) : (els.length + sp.length) * Tryd.prog.bytesOf e ≤ 140737488355328 ∧ ∀ d ∈ els, Light e d := by
  unfold Light at *
  simp only [DataW.weights, hu] at h
  exact ⟨h _ (by simp), fun d hd n hn => h n (by simp [light_all hd hn])⟩
theorem light_agg {t : TypeId} {fs : Array Field} {parts : List (DataW H)} (hu : Tryd.prog.underlying t = some (.struct fs)) (h : Light t (.agg parts)) (j : Nat) {ty : TypeId} {d : DataW H} (h1 : (fs.toList.map (·.type))[j]? = some ty) (h2 : parts[j]? = some d) : Light ty d := by
  intro n hn
  refine h n ?_
  simp only [DataW.weights, hu]
  exact DataW.weights_mem_each h1 h2 n hn
theorem light_each {ts : List TypeId} {ds : List (DataW H)} (h : (DataW.weightsEach Tryd.prog ts ds).all (· ≤ reachBytes) = true) (j : Nat) {t : TypeId} {d : DataW H} (h1 : ts[j]? = some t) (h2 : ds[j]? = some d) : Light t d := by
  intro n hn
  have : n ≤ reachBytes := by simpa using List.all_eq_true.1 h _ (DataW.weights_mem_each h1 h2 n hn)
  have r : reachBytes = 140737488351232 := rfl
  omega
theorem light_string {t : TypeId} {b : List UInt8} (h : Light t (.lit (.string b) : DataW H)) : b.length ≤ 140737488355328 := h _ (by simp [DataW.weights])
theorem wf_range {z : Int} (h : (Lit.int .i64 z).wf = true) : -9223372036854775808 ≤ z ∧ z ≤ 9223372036854775807 := by
  have e1 : IntKind.i64.min = -9223372036854775808 := rfl
  have e2 : IntKind.i64.max = 9223372036854775807 := rfl
  simp only [Lit.wf, Bool.and_eq_true, decide_eq_true_eq] at h
  omega
theorem open_sl2 {t e : TypeId} {fuel sz : Nat} {v : Value} {x : DataW H × List MemPlace} (ht : Tryd.prog.underlying t = some (.slice e)) (hc : Tryd.prog.cellsOf e = sz) (hsz : 0 < sz) (hb : 0 < Tryd.prog.bytesOf e)
    (h : DataW.trod enc Tryd.prog W 0 (fun _ => true) true fuel t [v] = some x) (hw : Light t x.1) :
    ∃ (n m : Nat) (C : Nat → List Value) (D : Nat → DataW H) (Q : Nat → List MemPlace), Sl2 W v sz n (fun j c => (C j).getD c undef) ∧ (∀ a k c, v = .slice a k c → k ≤ c) ∧
      ∀ i, i < n → (C i).length = sz ∧ DataW.trod enc Tryd.prog W 0 (fun _ => true) true m e (C i) = some (D i, Q i) ∧ Light e (D i) := by
  rcases open_slice ht h with ⟨h1, h2⟩ | ⟨a, len, cap, m, n, D, Q, h1, _, hl, hm, hmm, rfl, hx⟩
  · simp only [List.cons.injEq, and_true] at h1
    subst h1; subst h2
    refine ⟨0, 0, fun _ => [], fun _ => .nil, fun _ => [], ⟨by omega, none, 0, rfl, .inl rfl⟩, ?_, fun i hi => absurd hi (by omega)⟩
    intro a k c e
    cases e; exact Nat.le_refl _
  · simp only [List.cons.injEq, and_true] at h1
    subst h1
    simp only [if_true] at hmm
    subst hmm
    obtain ⟨hw1, hw2⟩ := light_slice ht hw
    rw [hc] at hx
    have hx' : ∀ i, i < len → ∃ cs', W.cells? 0 (a.add (i * sz)) sz = some cs' ∧ DataW.trod enc Tryd.prog W 0 (fun _ => true) true n e cs' = some (D i, Q i) := fun i hi => hx i (by omega)
    obtain ⟨C, hC⟩ := choose_lt (α := List Value) hx'
    have hlen : len ≤ 140737488355328 := by
      have : len * 1 ≤ len * Tryd.prog.bytesOf e := Nat.mul_le_mul_left _ hb
      simp only [List.length_map, List.length_range] at hw1
      have h3 : len * Tryd.prog.bytesOf e ≤ (len + (m - len)) * Tryd.prog.bytesOf e := Nat.mul_le_mul_right _ (by omega)
      omega
    refine ⟨len, n, C, D, Q, ⟨hlen, some a, m, rfl, ?_⟩, ?_, fun i hi => ?_⟩
    · by_cases h0 : len = 0
      · exact .inl h0
      right
      obtain ⟨b, off, spot⟩ := a
      have hs : spot = none := by
        obtain ⟨_, h4, h5⟩ := World.cells?_some (hC 0 (by omega)).1
        have h6 := h5 0 hsz
        obtain ⟨u, hu⟩ : ∃ u, (C 0)[0]? = some u := ⟨_, List.getElem?_eq_getElem (by omega)⟩
        rw [hu] at h6
        simpa [Addr.add] using World.cell?_spot h6
      subst hs
      refine ⟨b, off, rfl, fun j hj c hcs => ?_⟩
      obtain ⟨_, h4, h5⟩ := World.cells?_some (hC j hj).1
      have h6 := h5 c hcs
      rw [add_plain, add_plain] at h6
      rw [h6]
      simp [h4, hcs]
    · intro a' k c e
      cases e; exact hl
    · obtain ⟨_, h4, h5⟩ := World.cells?_some (hC i hi).1
      refine ⟨h4, (hC i hi).2, hw2 _ ?_⟩
      exact List.mem_map.2 ⟨i, List.mem_range.2 hi, rfl⟩
theorem Sl2.flat {v : Value} {sz n : Nat} {g : Nat → Nat → Value} (h : Sl2 W v sz n g) (hr : ∀ a k c, v = .slice a k c → k ≤ c) (f : Nat → Value) (hf : ∀ j, j < n → ∀ c, c < sz → f (j * sz + c) = g j c) (hsz : 0 < sz) : Sl W v sz n f := by
  obtain ⟨h1, a, cap, rfl, h2⟩ := h
  refine ⟨h1, ⟨a, cap, rfl, ?_⟩, hr⟩
  rcases h2 with h0 | ⟨b, off, ha, hc⟩
  · exact .inl h0
  refine .inr ⟨b, off, ha, fun j hj => ?_⟩
  have h3 := Nat.div_add_mod j sz
  have h4 := Nat.mod_lt j hsz
  have h5 : j / sz < n := (Nat.div_lt_iff_lt_mul hsz).2 hj
  have h6 := hc (j / sz) h5 (j % sz) h4
  have h7 := hf (j / sz) h5 (j % sz) h4
  have h8 : j / sz * sz + j % sz = j := by rw [Nat.mul_comm]; exact h3
  rw [Nat.add_assoc, h8] at h6
  rw [h8] at h7
  rw [h6, h7]
theorem open_sl {t e : TypeId} {fuel : Nat} {v : Value} {x : DataW H × List MemPlace} (ht : Tryd.prog.underlying t = some (.slice e)) (hc : Tryd.prog.cellsOf e = 1) (hb : 0 < Tryd.prog.bytesOf e)
    (h : DataW.trod enc Tryd.prog W 0 (fun _ => true) true fuel t [v] = some x) (hw : Light t x.1) :
    ∃ (n m : Nat) (V : Nat → Value) (D : Nat → DataW H) (Q : Nat → List MemPlace), Sl W v 1 n V ∧
      ∀ i, i < n → DataW.trod enc Tryd.prog W 0 (fun _ => true) true m e [V i] = some (D i, Q i) ∧ Light e (D i) := by
  obtain ⟨n, m, C, D, Q, h1, h2, h3⟩ := open_sl2 ht hc (by decide) hb h hw
  refine ⟨n, m, fun j => (C j).getD 0 undef, D, Q, h1.flat h2 _ (fun j hj c hcs => ?_) (by decide), fun i hi => ?_⟩
  · obtain rfl : c = 0 := by omega
    simp
  · obtain ⟨h4, h5, h6⟩ := h3 i hi
    refine ⟨?_, h6⟩
    match hCi : C i, h4 with
    | [u], _ => rw [hCi] at h5; simpa [hCi] using h5
theorem range_getD {α : Type} (n : Nat) (f : Nat → α) (d : α) (j : Nat) (h : j < n) : ((List.range n).map f).getD j d = f j := by simp [h]
theorem Ints.open {fuel : Nat} {v : Value} {x : DataW H × List MemPlace} (h : DataW.trod enc Tryd.prog W 0 (fun _ => true) true fuel 26 [v] = some x) (hw : Light 26 x.1) :
    ∃ xs : List Int, Ints W v xs ∧ ∀ i ∈ xs, -9223372036854775808 ≤ i ∧ i ≤ 9223372036854775807 := by
  obtain ⟨n, m, V, D, Q, h1, h2⟩ := open_sl Tryd.underlying26 (by kernel_rfl) (of_decide_eq_true (by kernel_rfl)) h hw
  obtain ⟨Z, hZ⟩ := choose_lt (α := Int) (p := fun i z => V i = .int .i64 z ∧ -9223372036854775808 ≤ z ∧ z ≤ 9223372036854775807) (fun i hi => by
    obtain ⟨z, h4, _, h5⟩ := DataW.trod_int Tryd.underlying3 (h2 i hi).1
    refine ⟨z, by simpa using h4, ?_⟩
    have e1 : IntKind.i64.min = -9223372036854775808 := rfl
    have e2 : IntKind.i64.max = 9223372036854775807 := rfl
    simp only [Lit.wf, Bool.and_eq_true, decide_eq_true_eq] at h5
    omega)
  refine ⟨(List.range n).map Z, ?_, ?_⟩
  · unfold Ints
    rw [List.length_map, List.length_range]
    exact h1.congr fun j hj => (hZ j (by omega)).1.trans (by rw [range_getD _ _ _ _ (by omega)])
  · intro i hi
    obtain ⟨j, hj, rfl⟩ := List.mem_map.1 hi
    exact (hZ j (List.mem_range.1 hj)).2
theorem Strs.open {fuel : Nat} {v : Value} {x : DataW H × List MemPlace} (h : DataW.trod enc Tryd.prog W 0 (fun _ => true) true fuel 25 [v] = some x) (hw : Light 25 x.1) :
    ∃ xs : List ByteArray, Strs W v xs := by
  obtain ⟨n, m, V, D, Q, h1, h2⟩ := open_sl Tryd.underlying25 (by kernel_rfl) (of_decide_eq_true (by kernel_rfl)) h hw
  obtain ⟨Z, hZ⟩ := choose_lt (α := ByteArray) (p := fun i z => V i = .string z ∧ z.size ≤ 140737488355328) (fun i hi => by
    obtain ⟨h3, h4⟩ := h2 i hi
    obtain ⟨z, h5, h6, _⟩ := DataW.trod_string Tryd.underlying9 h3
    simp only [Prod.mk.injEq] at h6
    rw [h6.1] at h4
    exact ⟨z, by simpa using h5, by simpa using light_string h4⟩)
  refine ⟨(List.range n).map Z, ?_, ?_⟩
  · rw [List.length_map, List.length_range]
    exact h1.congr fun j hj => (hZ j (by omega)).1.trans (by rw [range_getD _ _ _ _ (by omega)])
  · intro i hi
    obtain ⟨j, hj, rfl⟩ := List.mem_map.1 hi
    exact (hZ j (List.mem_range.1 hj)).2
end
section
variable {H : Type} {enc : TypeId × Value → H} {W : World}
theorem one_cell {v : Value} (ho : ∃ a n c, v = .slice a n c) : v.cells.toList = [v] := by obtain ⟨a, n, c, rfl⟩ := ho; rfl
theorem Ints.openT {v : Value} {d : DataW H} {ps : List MemPlace} (ho : ∃ a n c, v = .slice a n c) (h : DataW.Trod enc Tryd.prog W 0 (fun _ => true) true 26 v d ps) (hw : Light 26 d) :
    ∃ xs : List Int, Ints W v xs ∧ ∀ i ∈ xs, -9223372036854775808 ≤ i ∧ i ≤ 9223372036854775807 := by
  obtain ⟨fuel, h⟩ := h
  rw [one_cell ho] at h
  exact Ints.open h hw
theorem u8.openT {v : Value} {d : DataW H} {ps : List MemPlace} (h : ∃ n, v = .int .u8 n ∧ d = .lit (.int .u8 n) ∧ ps = [] ∧ (Lit.int .u8 n).wf = true) : ∃ n : Int, v = .int .u8 n ∧ 0 ≤ n ∧ n ≤ 255 := by
  obtain ⟨n, rfl, _, _, hw⟩ := h
  have e1 : IntKind.u8.min = 0 := rfl
  have e2 : IntKind.u8.max = 255 := rfl
  simp only [Lit.wf, Bool.and_eq_true, decide_eq_true_eq] at hw
  exact ⟨n, rfl, by omega, by omega⟩
theorem int.openT {v : Value} {d : DataW H} {ps : List MemPlace} (h : ∃ n, v = .int .i64 n ∧ d = .lit (.int .i64 n) ∧ ps = [] ∧ (Lit.int .i64 n).wf = true) : ∃ n : Int, v = .int .i64 n ∧ -9223372036854775808 ≤ n ∧ n ≤ 9223372036854775807 := by
  obtain ⟨n, rfl, _, _, hw⟩ := h
  exact ⟨n, rfl, wf_range hw⟩
theorem again_all (hl : laidOutB Tryd.prog = true) {W' : World} (hb : Below W.heap.size W W') : ∀ {ts : List TypeId} {vs : List Value} {ds : List (DataW H)} {ps : List MemPlace},
    (ts.all fun t => Tryd.prog.readableRec t && decide (t < Tryd.prog.types.size)) = true → DataW.TrodAll enc Tryd.prog W 0 (fun _ => true) true ts vs ds ps → (∀ x ∈ ps, x.block < W.heap.size) →
    DataW.TrodAll enc Tryd.prog W' 0 (fun b => decide (b < W.heap.size)) true ts vs ds ps := by
  intro ts
  induction ts with
  | nil => intro vs ds ps _ h _; obtain ⟨rfl, rfl, rfl⟩ := Go.ChangeShapes.trodAll_nil h; rfl
  | cons t ts ih =>
    intro vs ds ps ht h hlt
    obtain ⟨v, vs', d, ds', p, q, rfl, rfl, rfl, h1, h2⟩ := Go.ChangeShapes.trodAll_cons h
    simp only [List.all_cons, Bool.and_eq_true, decide_eq_true_eq] at ht
    exact ⟨p, q, Below.trod hl ht.1.1 ht.1.2 h1 hb (fun x hx => hlt x (List.mem_append_left _ hx)), ih (by simpa using ht.2) h2 (fun x hx => hlt x (List.mem_append_right _ hx)), rfl⟩
theorem trodAll_five {P : Program} {base : Nat} {spare : Nat → Bool} {held : Bool} {t t' t'' t3 t4 : TypeId} {args : Array Value} {ds : List (DataW H)} {ps : List MemPlace} (h : DataW.TrodAll enc P W base spare held [t, t', t'', t3, t4] args.toList ds ps) :
    ∃ v v' v'' v3 v4 d d' d'' d3 d4 p p' p'' p3 p4, args = #[v, v', v'', v3, v4] ∧ ds = [d, d', d'', d3, d4] ∧ ps = p ++ p' ++ p'' ++ p3 ++ p4 ∧ DataW.Trod enc P W base spare held t v d p ∧ DataW.Trod enc P W base spare held t' v' d' p' ∧ DataW.Trod enc P W base spare held t'' v'' d'' p'' ∧ DataW.Trod enc P W base spare held t3 v3 d3 p3 ∧ DataW.Trod enc P W base spare held t4 v4 d4 p4 := by
  obtain ⟨v, vs, d, ds', p, q, hargs, rfl, rfl, hd, hrest⟩ := Go.ChangeShapes.trodAll_cons h
  obtain ⟨v', vs', d', ds'', p', q', rfl, rfl, rfl, hd', hrest'⟩ := Go.ChangeShapes.trodAll_cons hrest
  obtain ⟨v'', vs'', d'', ds''', p'', q'', rfl, rfl, rfl, hd'', hrest''⟩ := Go.ChangeShapes.trodAll_cons hrest'
  obtain ⟨v3, vs3, d3, ds3, p3, q3, rfl, rfl, rfl, hd3, hrest3⟩ := Go.ChangeShapes.trodAll_cons hrest''
  obtain ⟨v4, vs4, d4, ds4, p4, q4, rfl, rfl, rfl, hd4, hrest4⟩ := Go.ChangeShapes.trodAll_cons hrest3
  obtain ⟨rfl, rfl, rfl⟩ := Go.ChangeShapes.trodAll_nil hrest4
  exact ⟨v, v', v'', v3, v4, d, d', d'', d3, d4, p, p', p'', p3, p4, by cases args; simp_all, rfl, by simp, hd, hd', hd'', hd3, hd4⟩
end
end Go.Proofs.YthnlnffmmioapaaDoor
namespace Go.Proofs.YthnlnffmmioapaaDoor
open Go.RowKit Go.Deep Go.WideShapes
variable {H : Type} {enc : TypeId × Value → H} {W : World}
theorem Str.openT {v : Value} {d : DataW H} {ps : List MemPlace} {t : TypeId} (h : ∃ s : ByteArray, v = .string s ∧ d = .lit (.string s.data.toList) ∧ ps = [] ∧ s.size ≤ maxLen) (hw : Light t d) : ∃ s : ByteArray, v = .string s ∧ s.size ≤ 140737488355328 := by
  obtain ⟨s, rfl, rfl, _, _⟩ := h
  exact ⟨s, rfl, by simpa using light_string hw⟩
end Go.Proofs.YthnlnffmmioapaaDoor
