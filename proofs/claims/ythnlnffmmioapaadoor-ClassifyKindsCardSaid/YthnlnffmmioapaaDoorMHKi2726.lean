/-
  Part 26 of the proof: Lk27, Open, OpenS. No statement of the seat is proved here.
-/
import Derived.Test.YthnlnffmmioapaaDoorMHKi2725
import Derived.ProofKit
import Derived.SizedLaws
import Derived.Deep.Strs
import Derived.ChangeMaps5
namespace Go.Proofs.YthnlnffmmioapaaDoor
open Go.RowKit
def b2i (b : Bool) : Int := if b = true then 1 else 0
theorem b2i_t : b2i true = 1 := rfl
theorem b2i_f : b2i false = 0 := rfl
theorem b2i_bd (b : Bool) : 0 ≤ b2i b ∧ b2i b ≤ 1 := by cases b <;> decide
set_option maxRecDepth 100000 in
set_option maxHeartbeats 4000000 in
theorem kd1_sat (k : Int) (ba wa sa : Option Addr) (bc wc sc : Nat) (pb pr : Value) (b : List ByteArray) (r : Rdn) (w : World) (hB : Strs w (.slice ba b.length bc) b) (hR : RdnV w r (.agg #[.slice wa r.words.length wc, .slice sa r.src.length sc]))
    (hpb : Pt1 w pb (.slice ba b.length bc)) (hpr : Pt w pr 2 (fun j => [.slice wa r.words.length wc, .slice sa r.src.length sc].getD j undef)) (hkd : KdL w) (hkf : KfL w) :
    SatV Tryd.prog 14 [.int .i64 k, pb, pr] w (.tuple #[.int .i64 (b2i (hldB (.mk k 0 ⟨#[]⟩ []) b r)), .int .i64 (hldE (.mk k 0 ⟨#[]⟩ []) b r)]) := by
  have hH := fun w1 (h : Below w.heap.size w w1) => Holds_sat _ _ _ (.mk k 0 ⟨#[]⟩ []) b r w1 (exp_leaf w1 k 0) (hB.below h) (hR.below h) (hkd.below h) (hkf.below h)
  cases hb : hldB (.mk k 0 ⟨#[]⟩ []) b r
  all_goals
    rw [hb] at hH
    refine SatL.of 19 [4, 5] Tryd.func14 (by kernel_rfl) (by kernel_rfl) rfl rfl rfl rfl ?_
    repeat' (first|(apply OK_seq)|(apply thenQ_n)|(apply OK_region)|(apply OKx_gl; refine OKx_ldR rfl hpb ?_)|(apply OKx_gl; refine OKx_ldRA rfl hpr ?_)|(refine OKx_buildG [(0, .int .i64 k)] #[.int .i64 k, .int .i64 0, .string ⟨#[]⟩, .slice none 0 0] rfl (exp_build1 k) ?_)|(apply OKx_gc 13;exact rfl; refine OKx_callV (f := 13) rfl rfl rfl (fun w1 hp => hH w1 hp.below) ?_)|(apply OKx_nilK)|(apply OK_block)|(apply blockQ_n)|(apply blockQ_s)|(apply thenQ_e)|(apply blockQ_e;exact rfl)|(apply thenQ_r)|(apply blockQ_r)|(apply OK_condT;exact rfl)|(apply OK_condF;exact rfl)|(apply OK_skip)|(apply OK_exit)|(apply OK_ret)|(apply OKx_move;(conv=>lhs;whnf)<;>exact rfl)|(apply OKx_assign;(conv=>lhs;whnf)<;>exact rfl)|(apply OKx_ldB;exact rfl;(first | exact at0|exact at1|exact at2|exact at3|exact at4|exact at5|exact at6|exact at7);exact rfl)|(apply OKx_ldR;(conv=>lhs;whnf)<;>exact rfl;(with_reducible assumption))|(apply OKx_extract;exact rfl;(conv=>lhs;whnf)<;>exact rfl)|(apply OKx_ldBA;exact rfl;(first | exact at0|exact at1|exact at2|exact at3|exact at4|exact at5|exact at6|exact at7);exact rfl)|(apply OKx_ldRA;(conv=>lhs;whnf)<;>exact rfl;(with_reducible assumption)))
    refine bodyQ_r2 (by ((conv=>lhs;whnf)<;>exact rfl)) (by ((conv=>lhs;whnf)<;>exact rfl)) ?_
    exact ⟨_, Ent.nil, rfl, rfl⟩
theorem rdns_one {w : World} {g : Nat} {wv sv : Value} {r : Rdn} (hs : Sl2 w (.slice (some ⟨g, 0, none⟩) 1 1) 2 1 (fun j c => [wv, sv].getD (j * 2 + c) undef)) (hR : RdnV w r (.agg #[wv, sv])) : Rdns w (.slice (some ⟨g, 0, none⟩) 1 1) [r] :=
  ⟨_, hs, fun j hj => by
    obtain rfl : j = 0 := by simp at hj;omega
    exact hR⟩
theorem sl2_none (w : World) (sz : Nat) (g : Nat → Nat → Value) : Sl2 w (.slice none 0 0) sz 0 g := ⟨by omega, none, 0, rfl, .inl rfl⟩
theorem fin_words {b : List ByteArray} {r : Rdn} {xs : List Cnd} (h : finB b [r] xs = true) : grtW b = false ∧ grtW r.words = false := by
  obtain ⟨_, h2, _, h4, _⟩ := finB_yes h
  refine ⟨h2, ?_⟩
  rw [grtR_any (by simp)] at h4
  have : grR1 r = false := by
    cases hg : grR1 r with
    | false => rfl
    | true => simp [hg] at h4
  unfold grR1 at this
  rw [Bool.or_eq_false_iff] at this
  exact this.1
theorem rgt_kind : rgtE (.mk 1 0 ⟨#[]⟩ []) = 0 ∧ rgtE (.mk 2 0 ⟨#[]⟩ []) = 0 ∧ rgtE (.mk 3 0 ⟨#[]⟩ []) = 0 ∧ rgtE (.mk 4 0 ⟨#[]⟩ []) = 0 ∧ rgtE (.mk 5 0 ⟨#[]⟩ []) = 0 ∧ rgtE (.mk 10 0 ⟨#[]⟩ []) = 0 := by decide +kernel
theorem hldE_kind {k : Int} {b : List ByteArray} {r : Rdn} (h : rgtE (.mk k 0 ⟨#[]⟩ []) = 0) : hldE (.mk k 0 ⟨#[]⟩ []) b r = if wdsB b = true ∧ rdgB r = true then 0 else 1 := by
  unfold hldE
  by_cases h1 : wdsB b = true ∧ rdgB r = true
  · rw [if_pos h1, if_pos ⟨h, h1⟩]
  · rw [if_neg h1, if_neg fun hh => h1 hh.2]
theorem hldB_kind {k : Int} {b : List ByteArray} {r : Rdn} (h : hldE (.mk k 0 ⟨#[]⟩ []) b r = 0) (hk : k < 11) : hldB (.mk k 0 ⟨#[]⟩ []) b r = leafH k 0 ⟨#[]⟩ b r.words r.src.length := by
  rw [hldB_ok h, hd_leaf _ _ _ _ _ _ hk]
set_option maxRecDepth 100000 in
set_option maxHeartbeats 4000000 in
theorem ClassifyKinds_sat (bv rv : Value) (b : List ByteArray) (r : Rdn) (w : World) (hB : Strs w bv b) (hR : RdnV w r rv) (hkd : KdL w) (hkf : KfL w) (ht : TbL w) : SatV Tryd.prog 4 [bv, rv] w (.bool true) := by
  obtain ⟨ba, bc, rfl, hbl, _⟩ := hB.at
  have hR0 := hR
  obtain ⟨wv, sv, rfl, hWv, hSv⟩ := hR
  obtain ⟨wa, wc, rfl, hwl, _⟩ := hWv.at
  obtain ⟨sa, sc, rfl, hsl, _⟩ := hSv.at
  have hA := fun w1 (h : Below w.heap.size w w1) => awake27_sat w1 (hkd.below h) (hkf.below h) (ht.below h)
  have hF := fun w1 g (h : Below w.heap.size w w1) hs => fine27_sat (.slice ba b.length bc) (.slice (some ⟨g, 0, none⟩) 1 1) (.slice none 0 0) b [r] [] (fun _ _ => undef) w1 (hB.below h) (rdns_one hs (hR0.below h)) (sl2_none w1 4 _) (fun j hj => absurd hj (by simp)) (hkd.below h)
  cases hfin : finB b [r] []
  · rw [hfin] at hF
    refine SatL.of 110 [4] Tryd.func4 (by kernel_rfl) (by kernel_rfl) rfl rfl rfl rfl ?_
    repeat' (first|(apply OK_seq)|(apply thenQ_n)|(apply OK_region)|(apply OKx_gt; refine OKx_slit1A (cs := [.slice wa r.words.length wc, .slice sa r.src.length sc]) rfl rfl rfl ?_; intro gR)|(apply OKx_gc 10;exact rfl; refine OKx_callV (f := 10) rfl rfl rfl (fun w1 hp => hF w1 _ hp.below (hp.sl2 0 rfl (by decide) rfl)) ?_)|(apply OKx_gc 11;exact rfl; refine OKx_callV (f := 11) rfl rfl rfl (fun w1 hp => hA w1 hp.below) ?_)|(apply OKx_nilK)|(apply OK_block)|(apply blockQ_n)|(apply blockQ_s)|(apply thenQ_e)|(apply blockQ_e;exact rfl)|(apply thenQ_r)|(apply blockQ_r)|(apply OK_condT;exact rfl)|(apply OK_condF;exact rfl)|(apply OK_skip)|(apply OK_exit)|(apply OK_ret)|(apply OKx_move;(conv=>lhs;whnf)<;>exact rfl)|(apply OKx_assign;(conv=>lhs;whnf)<;>exact rfl)|(apply OKx_ldB;exact rfl;(first | exact at0|exact at1|exact at2|exact at3|exact at4|exact at5|exact at6|exact at7);exact rfl)|(apply OKx_ldR;(conv=>lhs;whnf)<;>exact rfl;(with_reducible assumption))|(apply OKx_leq;exact rfl;exact rfl;all_goals (intro _; try (exfalso;omega)))|(apply OKx_eql;exact rfl;exact rfl;all_goals (intro _; try (exfalso;omega)))|(apply OKx_neq;exact rfl;exact rfl;all_goals (intro _; try (exfalso;omega)))|(apply OKx_fldO;exact rfl;exact rfl)|(apply OKx_fldR;(conv=>lhs;whnf)<;>exact rfl;(with_reducible assumption); decide;intro _ _)|(apply OKx_inc;exact rfl;exact rfl;omega)|(apply OKx_addN;exact rfl;exact rfl;omega)|(apply OKx_add;exact rfl;exact rfl;omega;omega)|(apply OKx_max;exact rfl;exact rfl)|(apply OKx_pickT;exact rfl;(conv=>lhs;whnf)<;>exact rfl)|(apply OKx_pickF;exact rfl;(conv=>lhs;whnf)<;>exact rfl)|(apply OKx_guardT;exact rfl;exact rfl)|(apply OKx_guardF;exact rfl;exact rfl)|(apply OKx_guardU;exact rfl;exact rfl)|(apply OKx_notT;exact rfl)|(apply OKx_notF;exact rfl)|(apply OKx_extract;exact rfl;(conv=>lhs;whnf)<;>exact rfl)|(apply OKx_boxA;exact rfl;intro _)|(apply OKx_ldBA;exact rfl;(first | exact at0|exact at1|exact at2|exact at3|exact at4|exact at5|exact at6|exact at7);exact rfl)|(apply OKx_ldRA;(conv=>lhs;whnf)<;>exact rfl;(with_reducible assumption))|(apply OKx_slit1;(conv=>lhs;whnf)<;>exact rfl;exact rfl;intro _)|(apply OKx_box1;(conv=>lhs;whnf)<;>exact rfl;exact rfl;intro _)|(apply OKx_func;exact rfl;exact rfl))
    refine bodyQ_r1 (by ((conv=>lhs;whnf)<;>exact rfl)) ?_
    exact ⟨_, Ent.nil, rfl, rfl⟩
  rw [hfin] at hF
  obtain ⟨gb, gw⟩ := fin_words hfin
  obtain ⟨k1, k2, k3, k4, k5, k10⟩ := rgt_kind
  have hc := fun (k : Int) w1 (p q : Nat) (h : Below w.heap.size w w1) hpb hpr => kd1_sat k ba wa sa bc wc sc (.pointer (some ⟨p, 0, none⟩)) (.pointer (some ⟨q, 0, none⟩)) b r w1 (hB.below h) (hR0.below h) ⟨_, _, rfl, hpb⟩ ⟨_, _, rfl, hpr⟩ (hkd.below h) (hkf.below h)
  have c1 := hc 1
  have c2 := hc 2
  have c3 := hc 3
  have c4 := hc 4
  have c5 := hc 5
  have c10 := hc 10
  clear hc
  by_cases hv : wdsB b = true ∧ rdgB r = true
  rotate_left
  · rw [hldE_kind k1, if_neg hv] at c1
    rw [hldE_kind k2, if_neg hv] at c2
    rw [hldE_kind k3, if_neg hv] at c3
    rw [hldE_kind k4, if_neg hv] at c4
    rw [hldE_kind k5, if_neg hv] at c5
    rw [hldE_kind k10, if_neg hv] at c10
    generalize b2i (hldB (.mk 1 0 ⟨#[]⟩ []) b r) = z1 at c1
    generalize b2i (hldB (.mk 2 0 ⟨#[]⟩ []) b r) = z2 at c2
    generalize b2i (hldB (.mk 3 0 ⟨#[]⟩ []) b r) = z3 at c3
    generalize b2i (hldB (.mk 4 0 ⟨#[]⟩ []) b r) = z4 at c4
    generalize b2i (hldB (.mk 5 0 ⟨#[]⟩ []) b r) = z5 at c5
    generalize b2i (hldB (.mk 10 0 ⟨#[]⟩ []) b r) = z10 at c10
    refine SatL.of 110 [4] Tryd.func4 (by kernel_rfl) (by kernel_rfl) rfl rfl rfl rfl ?_
    repeat' (first|(apply OK_seq)|(apply thenQ_n)|(apply OK_region)|(apply OKx_gt; refine OKx_slit1A (cs := [.slice wa r.words.length wc, .slice sa r.src.length sc]) rfl rfl rfl ?_; intro gR)|(apply OKx_gc 10;exact rfl; refine OKx_callV (f := 10) rfl rfl rfl (fun w1 hp => hF w1 _ hp.below (hp.sl2 0 rfl (by decide) rfl)) ?_)|(apply OKx_gc 11;exact rfl; refine OKx_callV (f := 11) rfl rfl rfl (fun w1 hp => hA w1 hp.below) ?_)|(apply OKx_gc 14;exact rfl; refine OKx_callV (f := 14) rfl rfl rfl (fun w1 hp => c1 w1 _ _ hp.below ((hp.boxAt 2 rfl).1 0) (fun j hj => by rw [Nat.zero_add, (hp.boxAt 1 rfl).1 j]; simp [hj])) ?_)|(apply OKx_gc 14;exact rfl; refine OKx_callV (f := 14) rfl rfl rfl (fun w1 hp => c2 w1 _ _ hp.below ((hp.boxAt 2 rfl).1 0) (fun j hj => by rw [Nat.zero_add, (hp.boxAt 1 rfl).1 j]; simp [hj])) ?_)|(apply OKx_gc 14;exact rfl; refine OKx_callV (f := 14) rfl rfl rfl (fun w1 hp => c3 w1 _ _ hp.below ((hp.boxAt 2 rfl).1 0) (fun j hj => by rw [Nat.zero_add, (hp.boxAt 1 rfl).1 j]; simp [hj])) ?_)|(apply OKx_gc 14;exact rfl; refine OKx_callV (f := 14) rfl rfl rfl (fun w1 hp => c4 w1 _ _ hp.below ((hp.boxAt 2 rfl).1 0) (fun j hj => by rw [Nat.zero_add, (hp.boxAt 1 rfl).1 j]; simp [hj])) ?_)|(apply OKx_gc 14;exact rfl; refine OKx_callV (f := 14) rfl rfl rfl (fun w1 hp => c5 w1 _ _ hp.below ((hp.boxAt 2 rfl).1 0) (fun j hj => by rw [Nat.zero_add, (hp.boxAt 1 rfl).1 j]; simp [hj])) ?_)|(apply OKx_gc 14;exact rfl; refine OKx_callV (f := 14) rfl rfl rfl (fun w1 hp => c10 w1 _ _ hp.below ((hp.boxAt 2 rfl).1 0) (fun j hj => by rw [Nat.zero_add, (hp.boxAt 1 rfl).1 j]; simp [hj])) ?_)|(apply OKx_gb; refine OKx_max6 (r := 1) rfl rfl rfl rfl rfl rfl (by decide) ?_)|(apply OKx_nilK)|(apply OK_block)|(apply blockQ_n)|(apply blockQ_s)|(apply thenQ_e)|(apply blockQ_e;exact rfl)|(apply thenQ_r)|(apply blockQ_r)|(apply OK_condT;exact rfl)|(apply OK_condF;exact rfl)|(apply OK_skip)|(apply OK_exit)|(apply OK_ret)|(apply OKx_move;(conv=>lhs;whnf)<;>exact rfl)|(apply OKx_assign;(conv=>lhs;whnf)<;>exact rfl)|(apply OKx_ldB;exact rfl;(first | exact at0|exact at1|exact at2|exact at3|exact at4|exact at5|exact at6|exact at7);exact rfl)|(apply OKx_ldR;(conv=>lhs;whnf)<;>exact rfl;(with_reducible assumption))|(apply OKx_leq;exact rfl;exact rfl;all_goals (intro _; try (exfalso;omega)))|(apply OKx_eql;exact rfl;exact rfl;all_goals (intro _; try (exfalso;omega)))|(apply OKx_neq;exact rfl;exact rfl;all_goals (intro _; try (exfalso;omega)))|(apply OKx_fldO;exact rfl;exact rfl)|(apply OKx_fldR;(conv=>lhs;whnf)<;>exact rfl;(with_reducible assumption); decide;intro _ _)|(apply OKx_inc;exact rfl;exact rfl;omega)|(apply OKx_addN;exact rfl;exact rfl;omega)|(apply OKx_add;exact rfl;exact rfl;omega;omega)|(apply OKx_max;exact rfl;exact rfl)|(apply OKx_pickT;exact rfl;(conv=>lhs;whnf)<;>exact rfl)|(apply OKx_pickF;exact rfl;(conv=>lhs;whnf)<;>exact rfl)|(apply OKx_guardT;exact rfl;exact rfl)|(apply OKx_guardF;exact rfl;exact rfl)|(apply OKx_guardU;exact rfl;exact rfl)|(apply OKx_notT;exact rfl)|(apply OKx_notF;exact rfl)|(apply OKx_extract;exact rfl;(conv=>lhs;whnf)<;>exact rfl)|(apply OKx_boxA;exact rfl;intro _)|(apply OKx_ldBA;exact rfl;(first | exact at0|exact at1|exact at2|exact at3|exact at4|exact at5|exact at6|exact at7);exact rfl)|(apply OKx_ldRA;(conv=>lhs;whnf)<;>exact rfl;(with_reducible assumption))|(apply OKx_slit1;(conv=>lhs;whnf)<;>exact rfl;exact rfl;intro _)|(apply OKx_box1;(conv=>lhs;whnf)<;>exact rfl;exact rfl;intro _)|(apply OKx_func;exact rfl;exact rfl))
    all_goals (try (exfalso;omega))
    refine bodyQ_r1 (by ((conv=>lhs;whnf)<;>exact rfl)) ?_
    exact ⟨_, Ent.nil, rfl, rfl⟩
  have e1 := (hldE_kind (b := b) (r := r) k1).trans (if_pos hv)
  have e2 := (hldE_kind (b := b) (r := r) k2).trans (if_pos hv)
  have e3 := (hldE_kind (b := b) (r := r) k3).trans (if_pos hv)
  have e4 := (hldE_kind (b := b) (r := r) k4).trans (if_pos hv)
  have e5 := (hldE_kind (b := b) (r := r) k5).trans (if_pos hv)
  have e10 := (hldE_kind (b := b) (r := r) k10).trans (if_pos hv)
  rw [e1, hldB_kind e1 (by decide)] at c1
  rw [e2, hldB_kind e2 (by decide)] at c2
  rw [e3, hldB_kind e3 (by decide)] at c3
  rw [e4, hldB_kind e4 (by decide)] at c4
  rw [e5, hldB_kind e5 (by decide)] at c5
  rw [e10, hldB_kind e10 (by decide)] at c10
  have hEq := fun w1 (h : Below w.heap.size w w1) => equalB_sat _ _ b r.words w1 (hB.below h) (hWv.below h)
  have hrw : wdsB r.words = true := by
    have := hv.2
    unfold rdgB at this
    rw [Bool.and_eq_true] at this
    exact this.2
  have hz4 := b2i_bd (leafH 4 0 ⟨#[]⟩ b r.words r.src.length)
  rcases kinds_law r.src.length hv.1 hrw gb gw with ⟨he, h1, h2, h3, h4, h5, h10⟩ | ⟨he, h5, (⟨h1, h2, h3, h4⟩ | ⟨h1, h2, h3, h4⟩ | ⟨h1, h2, h3⟩)⟩
  case inl =>
    rw [h10, b2i_t] at c10
    rw [h4, b2i_f] at c4
    rw [h5, b2i_t] at c5
    rw [h1, b2i_f] at c1
    rw [h2, b2i_f] at c2
    rw [h3, b2i_f] at c3
    rw [decide_eq_true he] at hEq
    clear hz4
    refine SatL.of 110 [4] Tryd.func4 (by kernel_rfl) (by kernel_rfl) rfl rfl rfl rfl ?_
    repeat' (first|(apply OK_seq)|(apply thenQ_n)|(apply OK_region)|(apply OKx_gt; refine OKx_slit1A (cs := [.slice wa r.words.length wc, .slice sa r.src.length sc]) rfl rfl rfl ?_; intro gR)|(apply OKx_gc 10;exact rfl; refine OKx_callV (f := 10) rfl rfl rfl (fun w1 hp => hF w1 _ hp.below (hp.sl2 0 rfl (by decide) rfl)) ?_)|(apply OKx_gc 11;exact rfl; refine OKx_callV (f := 11) rfl rfl rfl (fun w1 hp => hA w1 hp.below) ?_)|(apply OKx_gc 14;exact rfl; refine OKx_callV (f := 14) rfl rfl rfl (fun w1 hp => c1 w1 _ _ hp.below ((hp.boxAt 2 rfl).1 0) (fun j hj => by rw [Nat.zero_add, (hp.boxAt 1 rfl).1 j]; simp [hj])) ?_)|(apply OKx_gc 14;exact rfl; refine OKx_callV (f := 14) rfl rfl rfl (fun w1 hp => c2 w1 _ _ hp.below ((hp.boxAt 2 rfl).1 0) (fun j hj => by rw [Nat.zero_add, (hp.boxAt 1 rfl).1 j]; simp [hj])) ?_)|(apply OKx_gc 14;exact rfl; refine OKx_callV (f := 14) rfl rfl rfl (fun w1 hp => c3 w1 _ _ hp.below ((hp.boxAt 2 rfl).1 0) (fun j hj => by rw [Nat.zero_add, (hp.boxAt 1 rfl).1 j]; simp [hj])) ?_)|(apply OKx_gc 14;exact rfl; refine OKx_callV (f := 14) rfl rfl rfl (fun w1 hp => c4 w1 _ _ hp.below ((hp.boxAt 2 rfl).1 0) (fun j hj => by rw [Nat.zero_add, (hp.boxAt 1 rfl).1 j]; simp [hj])) ?_)|(apply OKx_gc 14;exact rfl; refine OKx_callV (f := 14) rfl rfl rfl (fun w1 hp => c5 w1 _ _ hp.below ((hp.boxAt 2 rfl).1 0) (fun j hj => by rw [Nat.zero_add, (hp.boxAt 1 rfl).1 j]; simp [hj])) ?_)|(apply OKx_gc 14;exact rfl; refine OKx_callV (f := 14) rfl rfl rfl (fun w1 hp => c10 w1 _ _ hp.below ((hp.boxAt 2 rfl).1 0) (fun j hj => by rw [Nat.zero_add, (hp.boxAt 1 rfl).1 j]; simp [hj])) ?_)|(apply OKx_gb; refine OKx_max6 (r := 0) rfl rfl rfl rfl rfl rfl (by decide) ?_)|(apply OKx_gc 15;exact rfl; refine OKx_callV (f := 15) rfl rfl rfl (fun w1 hp => hEq w1 hp.below) ?_)|(apply OKx_gn; refine OKx_beqT Tryd.underlying4 rfl rfl ?_)|(apply OKx_nilK)|(apply OK_block)|(apply blockQ_n)|(apply blockQ_s)|(apply thenQ_e)|(apply blockQ_e;exact rfl)|(apply thenQ_r)|(apply blockQ_r)|(apply OK_condT;exact rfl)|(apply OK_condF;exact rfl)|(apply OK_skip)|(apply OK_exit)|(apply OK_ret)|(apply OKx_move;(conv=>lhs;whnf)<;>exact rfl)|(apply OKx_assign;(conv=>lhs;whnf)<;>exact rfl)|(apply OKx_ldB;exact rfl;(first | exact at0|exact at1|exact at2|exact at3|exact at4|exact at5|exact at6|exact at7);exact rfl)|(apply OKx_ldR;(conv=>lhs;whnf)<;>exact rfl;(with_reducible assumption))|(apply OKx_leq;exact rfl;exact rfl;all_goals (intro _; try (exfalso;omega)))|(apply OKx_eql;exact rfl;exact rfl;all_goals (intro _; try (exfalso;omega)))|(apply OKx_neq;exact rfl;exact rfl;all_goals (intro _; try (exfalso;omega)))|(apply OKx_fldO;exact rfl;exact rfl)|(apply OKx_fldR;(conv=>lhs;whnf)<;>exact rfl;(with_reducible assumption); decide;intro _ _)|(apply OKx_inc;exact rfl;exact rfl;omega)|(apply OKx_addN;exact rfl;exact rfl;omega)|(apply OKx_add;exact rfl;exact rfl;omega;omega)|(apply OKx_max;exact rfl;exact rfl)|(apply OKx_pickT;exact rfl;(conv=>lhs;whnf)<;>exact rfl)|(apply OKx_pickF;exact rfl;(conv=>lhs;whnf)<;>exact rfl)|(apply OKx_guardT;exact rfl;exact rfl)|(apply OKx_guardF;exact rfl;exact rfl)|(apply OKx_guardU;exact rfl;exact rfl)|(apply OKx_notT;exact rfl)|(apply OKx_notF;exact rfl)|(apply OKx_extract;exact rfl;(conv=>lhs;whnf)<;>exact rfl)|(apply OKx_boxA;exact rfl;intro _)|(apply OKx_ldBA;exact rfl;(first | exact at0|exact at1|exact at2|exact at3|exact at4|exact at5|exact at6|exact at7);exact rfl)|(apply OKx_ldRA;(conv=>lhs;whnf)<;>exact rfl;(with_reducible assumption))|(apply OKx_slit1;(conv=>lhs;whnf)<;>exact rfl;exact rfl;intro _)|(apply OKx_box1;(conv=>lhs;whnf)<;>exact rfl;exact rfl;intro _)|(apply OKx_func;exact rfl;exact rfl))
    all_goals (try (exfalso;omega))
    refine bodyQ_r1 (by ((conv=>lhs;whnf)<;>exact rfl)) ?_
    exact ⟨_, Ent.nil, rfl, rfl⟩
  case inr.inl =>
    rw [h1, b2i_t] at c1
    rw [h2, b2i_f] at c2
    rw [h3, b2i_f] at c3
    rw [h4, b2i_f] at c4
    rw [h5, b2i_f] at c5
    rw [decide_eq_false he] at hEq
    clear hz4
    generalize b2i (leafH 10 0 ⟨#[]⟩ b r.words r.src.length) = z10 at c10
    refine SatL.of 110 [4] Tryd.func4 (by kernel_rfl) (by kernel_rfl) rfl rfl rfl rfl ?_
    repeat' (first|(apply OK_seq)|(apply thenQ_n)|(apply OK_region)|(apply OKx_gt; refine OKx_slit1A (cs := [.slice wa r.words.length wc, .slice sa r.src.length sc]) rfl rfl rfl ?_; intro gR)|(apply OKx_gc 10;exact rfl; refine OKx_callV (f := 10) rfl rfl rfl (fun w1 hp => hF w1 _ hp.below (hp.sl2 0 rfl (by decide) rfl)) ?_)|(apply OKx_gc 11;exact rfl; refine OKx_callV (f := 11) rfl rfl rfl (fun w1 hp => hA w1 hp.below) ?_)|(apply OKx_gc 14;exact rfl; refine OKx_callV (f := 14) rfl rfl rfl (fun w1 hp => c1 w1 _ _ hp.below ((hp.boxAt 2 rfl).1 0) (fun j hj => by rw [Nat.zero_add, (hp.boxAt 1 rfl).1 j]; simp [hj])) ?_)|(apply OKx_gc 14;exact rfl; refine OKx_callV (f := 14) rfl rfl rfl (fun w1 hp => c2 w1 _ _ hp.below ((hp.boxAt 2 rfl).1 0) (fun j hj => by rw [Nat.zero_add, (hp.boxAt 1 rfl).1 j]; simp [hj])) ?_)|(apply OKx_gc 14;exact rfl; refine OKx_callV (f := 14) rfl rfl rfl (fun w1 hp => c3 w1 _ _ hp.below ((hp.boxAt 2 rfl).1 0) (fun j hj => by rw [Nat.zero_add, (hp.boxAt 1 rfl).1 j]; simp [hj])) ?_)|(apply OKx_gc 14;exact rfl; refine OKx_callV (f := 14) rfl rfl rfl (fun w1 hp => c4 w1 _ _ hp.below ((hp.boxAt 2 rfl).1 0) (fun j hj => by rw [Nat.zero_add, (hp.boxAt 1 rfl).1 j]; simp [hj])) ?_)|(apply OKx_gc 14;exact rfl; refine OKx_callV (f := 14) rfl rfl rfl (fun w1 hp => c5 w1 _ _ hp.below ((hp.boxAt 2 rfl).1 0) (fun j hj => by rw [Nat.zero_add, (hp.boxAt 1 rfl).1 j]; simp [hj])) ?_)|(apply OKx_gc 14;exact rfl; refine OKx_callV (f := 14) rfl rfl rfl (fun w1 hp => c10 w1 _ _ hp.below ((hp.boxAt 2 rfl).1 0) (fun j hj => by rw [Nat.zero_add, (hp.boxAt 1 rfl).1 j]; simp [hj])) ?_)|(apply OKx_gb; refine OKx_max6 (r := 0) rfl rfl rfl rfl rfl rfl (by decide) ?_)|(apply OKx_gc 15;exact rfl; refine OKx_callV (f := 15) rfl rfl rfl (fun w1 hp => hEq w1 hp.below) ?_)|(apply OKx_gn; refine OKx_beqT Tryd.underlying4 rfl rfl ?_)|(apply OKx_nilK)|(apply OK_block)|(apply blockQ_n)|(apply blockQ_s)|(apply thenQ_e)|(apply blockQ_e;exact rfl)|(apply thenQ_r)|(apply blockQ_r)|(apply OK_condT;exact rfl)|(apply OK_condF;exact rfl)|(apply OK_skip)|(apply OK_exit)|(apply OK_ret)|(apply OKx_move;(conv=>lhs;whnf)<;>exact rfl)|(apply OKx_assign;(conv=>lhs;whnf)<;>exact rfl)|(apply OKx_ldB;exact rfl;(first | exact at0|exact at1|exact at2|exact at3|exact at4|exact at5|exact at6|exact at7);exact rfl)|(apply OKx_ldR;(conv=>lhs;whnf)<;>exact rfl;(with_reducible assumption))|(apply OKx_leq;exact rfl;exact rfl;all_goals (intro _; try (exfalso;omega)))|(apply OKx_eql;exact rfl;exact rfl;all_goals (intro _; try (exfalso;omega)))|(apply OKx_neq;exact rfl;exact rfl;all_goals (intro _; try (exfalso;omega)))|(apply OKx_fldO;exact rfl;exact rfl)|(apply OKx_fldR;(conv=>lhs;whnf)<;>exact rfl;(with_reducible assumption); decide;intro _ _)|(apply OKx_inc;exact rfl;exact rfl;omega)|(apply OKx_addN;exact rfl;exact rfl;omega)|(apply OKx_add;exact rfl;exact rfl;omega;omega)|(apply OKx_max;exact rfl;exact rfl)|(apply OKx_pickT;exact rfl;(conv=>lhs;whnf)<;>exact rfl)|(apply OKx_pickF;exact rfl;(conv=>lhs;whnf)<;>exact rfl)|(apply OKx_guardT;exact rfl;exact rfl)|(apply OKx_guardF;exact rfl;exact rfl)|(apply OKx_guardU;exact rfl;exact rfl)|(apply OKx_notT;exact rfl)|(apply OKx_notF;exact rfl)|(apply OKx_extract;exact rfl;(conv=>lhs;whnf)<;>exact rfl)|(apply OKx_boxA;exact rfl;intro _)|(apply OKx_ldBA;exact rfl;(first | exact at0|exact at1|exact at2|exact at3|exact at4|exact at5|exact at6|exact at7);exact rfl)|(apply OKx_ldRA;(conv=>lhs;whnf)<;>exact rfl;(with_reducible assumption))|(apply OKx_slit1;(conv=>lhs;whnf)<;>exact rfl;exact rfl;intro _)|(apply OKx_box1;(conv=>lhs;whnf)<;>exact rfl;exact rfl;intro _)|(apply OKx_func;exact rfl;exact rfl))
    all_goals (try (exfalso;omega))
    refine bodyQ_r1 (by ((conv=>lhs;whnf)<;>exact rfl)) ?_
    exact ⟨_, Ent.nil, rfl, rfl⟩
  case inr.inr.inl =>
    rw [h1, b2i_f] at c1
    rw [h2, b2i_t] at c2
    rw [h3, b2i_f] at c3
    rw [h4, b2i_f] at c4
    rw [h5, b2i_f] at c5
    rw [decide_eq_false he] at hEq
    clear hz4
    generalize b2i (leafH 10 0 ⟨#[]⟩ b r.words r.src.length) = z10 at c10
    refine SatL.of 110 [4] Tryd.func4 (by kernel_rfl) (by kernel_rfl) rfl rfl rfl rfl ?_
    repeat' (first|(apply OK_seq)|(apply thenQ_n)|(apply OK_region)|(apply OKx_gt; refine OKx_slit1A (cs := [.slice wa r.words.length wc, .slice sa r.src.length sc]) rfl rfl rfl ?_; intro gR)|(apply OKx_gc 10;exact rfl; refine OKx_callV (f := 10) rfl rfl rfl (fun w1 hp => hF w1 _ hp.below (hp.sl2 0 rfl (by decide) rfl)) ?_)|(apply OKx_gc 11;exact rfl; refine OKx_callV (f := 11) rfl rfl rfl (fun w1 hp => hA w1 hp.below) ?_)|(apply OKx_gc 14;exact rfl; refine OKx_callV (f := 14) rfl rfl rfl (fun w1 hp => c1 w1 _ _ hp.below ((hp.boxAt 2 rfl).1 0) (fun j hj => by rw [Nat.zero_add, (hp.boxAt 1 rfl).1 j]; simp [hj])) ?_)|(apply OKx_gc 14;exact rfl; refine OKx_callV (f := 14) rfl rfl rfl (fun w1 hp => c2 w1 _ _ hp.below ((hp.boxAt 2 rfl).1 0) (fun j hj => by rw [Nat.zero_add, (hp.boxAt 1 rfl).1 j]; simp [hj])) ?_)|(apply OKx_gc 14;exact rfl; refine OKx_callV (f := 14) rfl rfl rfl (fun w1 hp => c3 w1 _ _ hp.below ((hp.boxAt 2 rfl).1 0) (fun j hj => by rw [Nat.zero_add, (hp.boxAt 1 rfl).1 j]; simp [hj])) ?_)|(apply OKx_gc 14;exact rfl; refine OKx_callV (f := 14) rfl rfl rfl (fun w1 hp => c4 w1 _ _ hp.below ((hp.boxAt 2 rfl).1 0) (fun j hj => by rw [Nat.zero_add, (hp.boxAt 1 rfl).1 j]; simp [hj])) ?_)|(apply OKx_gc 14;exact rfl; refine OKx_callV (f := 14) rfl rfl rfl (fun w1 hp => c5 w1 _ _ hp.below ((hp.boxAt 2 rfl).1 0) (fun j hj => by rw [Nat.zero_add, (hp.boxAt 1 rfl).1 j]; simp [hj])) ?_)|(apply OKx_gc 14;exact rfl; refine OKx_callV (f := 14) rfl rfl rfl (fun w1 hp => c10 w1 _ _ hp.below ((hp.boxAt 2 rfl).1 0) (fun j hj => by rw [Nat.zero_add, (hp.boxAt 1 rfl).1 j]; simp [hj])) ?_)|(apply OKx_gb; refine OKx_max6 (r := 0) rfl rfl rfl rfl rfl rfl (by decide) ?_)|(apply OKx_gc 15;exact rfl; refine OKx_callV (f := 15) rfl rfl rfl (fun w1 hp => hEq w1 hp.below) ?_)|(apply OKx_gn; refine OKx_beqT Tryd.underlying4 rfl rfl ?_)|(apply OKx_nilK)|(apply OK_block)|(apply blockQ_n)|(apply blockQ_s)|(apply thenQ_e)|(apply blockQ_e;exact rfl)|(apply thenQ_r)|(apply blockQ_r)|(apply OK_condT;exact rfl)|(apply OK_condF;exact rfl)|(apply OK_skip)|(apply OK_exit)|(apply OK_ret)|(apply OKx_move;(conv=>lhs;whnf)<;>exact rfl)|(apply OKx_assign;(conv=>lhs;whnf)<;>exact rfl)|(apply OKx_ldB;exact rfl;(first | exact at0|exact at1|exact at2|exact at3|exact at4|exact at5|exact at6|exact at7);exact rfl)|(apply OKx_ldR;(conv=>lhs;whnf)<;>exact rfl;(with_reducible assumption))|(apply OKx_leq;exact rfl;exact rfl;all_goals (intro _; try (exfalso;omega)))|(apply OKx_eql;exact rfl;exact rfl;all_goals (intro _; try (exfalso;omega)))|(apply OKx_neq;exact rfl;exact rfl;all_goals (intro _; try (exfalso;omega)))|(apply OKx_fldO;exact rfl;exact rfl)|(apply OKx_fldR;(conv=>lhs;whnf)<;>exact rfl;(with_reducible assumption); decide;intro _ _)|(apply OKx_inc;exact rfl;exact rfl;omega)|(apply OKx_addN;exact rfl;exact rfl;omega)|(apply OKx_add;exact rfl;exact rfl;omega;omega)|(apply OKx_max;exact rfl;exact rfl)|(apply OKx_pickT;exact rfl;(conv=>lhs;whnf)<;>exact rfl)|(apply OKx_pickF;exact rfl;(conv=>lhs;whnf)<;>exact rfl)|(apply OKx_guardT;exact rfl;exact rfl)|(apply OKx_guardF;exact rfl;exact rfl)|(apply OKx_guardU;exact rfl;exact rfl)|(apply OKx_notT;exact rfl)|(apply OKx_notF;exact rfl)|(apply OKx_extract;exact rfl;(conv=>lhs;whnf)<;>exact rfl)|(apply OKx_boxA;exact rfl;intro _)|(apply OKx_ldBA;exact rfl;(first | exact at0|exact at1|exact at2|exact at3|exact at4|exact at5|exact at6|exact at7);exact rfl)|(apply OKx_ldRA;(conv=>lhs;whnf)<;>exact rfl;(with_reducible assumption))|(apply OKx_slit1;(conv=>lhs;whnf)<;>exact rfl;exact rfl;intro _)|(apply OKx_box1;(conv=>lhs;whnf)<;>exact rfl;exact rfl;intro _)|(apply OKx_func;exact rfl;exact rfl))
    all_goals (try (exfalso;omega))
    refine bodyQ_r1 (by ((conv=>lhs;whnf)<;>exact rfl)) ?_
    exact ⟨_, Ent.nil, rfl, rfl⟩
  case inr.inr.inr =>
    rw [h1, b2i_f] at c1
    rw [h2, b2i_f] at c2
    rw [h3, b2i_t] at c3
    rw [h5, b2i_f] at c5
    rw [decide_eq_false he] at hEq
    generalize b2i (leafH 10 0 ⟨#[]⟩ b r.words r.src.length) = z10 at c10
    generalize b2i (leafH 4 0 ⟨#[]⟩ b r.words r.src.length) = z4 at c4 hz4
    refine SatL.of 110 [4] Tryd.func4 (by kernel_rfl) (by kernel_rfl) rfl rfl rfl rfl ?_
    repeat' (first|(apply OK_seq)|(apply thenQ_n)|(apply OK_region)|(apply OKx_gt; refine OKx_slit1A (cs := [.slice wa r.words.length wc, .slice sa r.src.length sc]) rfl rfl rfl ?_; intro gR)|(apply OKx_gc 10;exact rfl; refine OKx_callV (f := 10) rfl rfl rfl (fun w1 hp => hF w1 _ hp.below (hp.sl2 0 rfl (by decide) rfl)) ?_)|(apply OKx_gc 11;exact rfl; refine OKx_callV (f := 11) rfl rfl rfl (fun w1 hp => hA w1 hp.below) ?_)|(apply OKx_gc 14;exact rfl; refine OKx_callV (f := 14) rfl rfl rfl (fun w1 hp => c1 w1 _ _ hp.below ((hp.boxAt 2 rfl).1 0) (fun j hj => by rw [Nat.zero_add, (hp.boxAt 1 rfl).1 j]; simp [hj])) ?_)|(apply OKx_gc 14;exact rfl; refine OKx_callV (f := 14) rfl rfl rfl (fun w1 hp => c2 w1 _ _ hp.below ((hp.boxAt 2 rfl).1 0) (fun j hj => by rw [Nat.zero_add, (hp.boxAt 1 rfl).1 j]; simp [hj])) ?_)|(apply OKx_gc 14;exact rfl; refine OKx_callV (f := 14) rfl rfl rfl (fun w1 hp => c3 w1 _ _ hp.below ((hp.boxAt 2 rfl).1 0) (fun j hj => by rw [Nat.zero_add, (hp.boxAt 1 rfl).1 j]; simp [hj])) ?_)|(apply OKx_gc 14;exact rfl; refine OKx_callV (f := 14) rfl rfl rfl (fun w1 hp => c4 w1 _ _ hp.below ((hp.boxAt 2 rfl).1 0) (fun j hj => by rw [Nat.zero_add, (hp.boxAt 1 rfl).1 j]; simp [hj])) ?_)|(apply OKx_gc 14;exact rfl; refine OKx_callV (f := 14) rfl rfl rfl (fun w1 hp => c5 w1 _ _ hp.below ((hp.boxAt 2 rfl).1 0) (fun j hj => by rw [Nat.zero_add, (hp.boxAt 1 rfl).1 j]; simp [hj])) ?_)|(apply OKx_gc 14;exact rfl; refine OKx_callV (f := 14) rfl rfl rfl (fun w1 hp => c10 w1 _ _ hp.below ((hp.boxAt 2 rfl).1 0) (fun j hj => by rw [Nat.zero_add, (hp.boxAt 1 rfl).1 j]; simp [hj])) ?_)|(apply OKx_gb; refine OKx_max6 (r := 0) rfl rfl rfl rfl rfl rfl (by decide) ?_)|(apply OKx_gc 15;exact rfl; refine OKx_callV (f := 15) rfl rfl rfl (fun w1 hp => hEq w1 hp.below) ?_)|(apply OKx_gn; refine OKx_beqT Tryd.underlying4 rfl rfl ?_)|(apply OKx_nilK)|(apply OK_block)|(apply blockQ_n)|(apply blockQ_s)|(apply thenQ_e)|(apply blockQ_e;exact rfl)|(apply thenQ_r)|(apply blockQ_r)|(apply OK_condT;exact rfl)|(apply OK_condF;exact rfl)|(apply OK_skip)|(apply OK_exit)|(apply OK_ret)|(apply OKx_move;(conv=>lhs;whnf)<;>exact rfl)|(apply OKx_assign;(conv=>lhs;whnf)<;>exact rfl)|(apply OKx_ldB;exact rfl;(first | exact at0|exact at1|exact at2|exact at3|exact at4|exact at5|exact at6|exact at7);exact rfl)|(apply OKx_ldR;(conv=>lhs;whnf)<;>exact rfl;(with_reducible assumption))|(apply OKx_leq;exact rfl;exact rfl;all_goals (intro _; try (exfalso;omega)))|(apply OKx_eql;exact rfl;exact rfl;all_goals (intro _; try (exfalso;omega)))|(apply OKx_neq;exact rfl;exact rfl;all_goals (intro _; try (exfalso;omega)))|(apply OKx_fldO;exact rfl;exact rfl)|(apply OKx_fldR;(conv=>lhs;whnf)<;>exact rfl;(with_reducible assumption); decide;intro _ _)|(apply OKx_inc;exact rfl;exact rfl;omega)|(apply OKx_addN;exact rfl;exact rfl;omega)|(apply OKx_add;exact rfl;exact rfl;omega;omega)|(apply OKx_max;exact rfl;exact rfl)|(apply OKx_pickT;exact rfl;(conv=>lhs;whnf)<;>exact rfl)|(apply OKx_pickF;exact rfl;(conv=>lhs;whnf)<;>exact rfl)|(apply OKx_guardT;exact rfl;exact rfl)|(apply OKx_guardF;exact rfl;exact rfl)|(apply OKx_guardU;exact rfl;exact rfl)|(apply OKx_notT;exact rfl)|(apply OKx_notF;exact rfl)|(apply OKx_extract;exact rfl;(conv=>lhs;whnf)<;>exact rfl)|(apply OKx_boxA;exact rfl;intro _)|(apply OKx_ldBA;exact rfl;(first | exact at0|exact at1|exact at2|exact at3|exact at4|exact at5|exact at6|exact at7);exact rfl)|(apply OKx_ldRA;(conv=>lhs;whnf)<;>exact rfl;(with_reducible assumption))|(apply OKx_slit1;(conv=>lhs;whnf)<;>exact rfl;exact rfl;intro _)|(apply OKx_box1;(conv=>lhs;whnf)<;>exact rfl;exact rfl;intro _)|(apply OKx_func;exact rfl;exact rfl))
    all_goals (try (exfalso;omega))
    refine bodyQ_r1 (by ((conv=>lhs;whnf)<;>exact rfl)) ?_
    exact ⟨_, Ent.nil, rfl, rfl⟩
end Go.Proofs.YthnlnffmmioapaaDoor
namespace Go.Proofs.YthnlnffmmioapaaDoor
open Go.RowKit Go.Deep Go.WideShapes
section
variable {H : Type} {enc : TypeId × Value → H} {W : World}
def Light (t : TypeId) (d : DataW H) : Prop := ∀ n ∈ d.weights Tryd.prog t, n ≤ 140737488355328
theorem light_all {e : TypeId} {els : List (DataW H)} {d : DataW H} (hd : d ∈ els) {n : Nat} (hn : n ∈ d.weights Tryd.prog e) : n ∈ DataW.weightsAll Tryd.prog e els := by
  induction els with
  | nil => simp at hd
  | cons a r ih =>
    simp only [DataW.weightsAll, List.mem_append]
    rcases List.mem_cons.1 hd with rfl | h
    · exact .inl hn
    · exact .inr (ih h)
theorem light_slice {t e : TypeId} {els sp : List (DataW H)} (hu : Tryd.prog.underlying t = some (.slice e)) (h : Light t (.slice els sp)) : (els.length + sp.length) * Tryd.prog.bytesOf e ≤ 140737488355328 ∧ ∀ d ∈ els, Light e d := by
  unfold Light at *
  simp only [DataW.weights, hu] at h
  exact ⟨h _ (by simp), fun d hd n hn => h n (by simp [light_all hd hn])⟩
theorem light_agg {t : TypeId} {fs : Array Field} {parts : List (DataW H)} (hu : Tryd.prog.underlying t = some (.struct fs)) (h : Light t (.agg parts)) (j : Nat) {ty : TypeId} {d : DataW H} (h1 : (fs.toList.map (·.type))[j]? = some ty) (h2 : parts[j]? = some d) : Light ty d := by
  intro n hn
  refine h n ?_
  simp only [DataW.weights, hu]
  exact DataW.weights_mem_each h1 h2 n hn
theorem light_each {ts : List TypeId} {ds : List (DataW H)} (h : (DataW.weightsEach Tryd.prog ts ds).all (· ≤ reachBytes) = true) (j : Nat) {t : TypeId} {d : DataW H} (h1 : ts[j]? = some t) (h2 : ds[j]? = some d) : Light t d := by
  intro n hn
  have : n ≤ reachBytes := by simpa using List.all_eq_true.1 h _ (DataW.weights_mem_each h1 h2 n hn)
  have r : reachBytes = 140737488351232 := rfl
  omega
theorem light_string {t : TypeId} {b : List UInt8} (h : Light t (.lit (.string b) : DataW H)) : b.length ≤ 140737488355328 := h _ (by simp [DataW.weights])
theorem wf_range {z : Int} (h : (Lit.int .i64 z).wf = true) : -9223372036854775808 ≤ z ∧ z ≤ 9223372036854775807 := by
  have e1 : IntKind.i64.min = -9223372036854775808 := rfl
  have e2 : IntKind.i64.max = 9223372036854775807 := rfl
  simp only [Lit.wf, Bool.and_eq_true, decide_eq_true_eq] at h
  omega
theorem open_sl2 {t e : TypeId} {fuel sz : Nat} {v : Value} {x : DataW H × List MemPlace} (ht : Tryd.prog.underlying t = some (.slice e)) (hc : Tryd.prog.cellsOf e = sz) (hsz : 0 < sz) (hb : 0 < Tryd.prog.bytesOf e)
    (h : DataW.trod enc Tryd.prog W 0 (fun _ => true) true fuel t [v] = some x) (hw : Light t x.1) :
    ∃ (n m : Nat) (C : Nat → List Value) (D : Nat → DataW H) (Q : Nat → List MemPlace), Sl2 W v sz n (fun j c => (C j).getD c undef) ∧ (∀ a k c, v = .slice a k c → k ≤ c) ∧
      ∀ i, i < n → (C i).length = sz ∧ DataW.trod enc Tryd.prog W 0 (fun _ => true) true m e (C i) = some (D i, Q i) ∧ Light e (D i) := by
  rcases open_slice ht h with ⟨h1, h2⟩ | ⟨a, len, cap, m, n, D, Q, h1, _, hl, hm, hmm, rfl, hx⟩
  · simp only [List.cons.injEq, and_true] at h1
    subst h1; subst h2
    refine ⟨0, 0, fun _ => [], fun _ => .nil, fun _ => [], ⟨by omega, none, 0, rfl, .inl rfl⟩, ?_, fun i hi => absurd hi (by omega)⟩
    intro a k c e
    cases e; exact Nat.le_refl _
  · simp only [List.cons.injEq, and_true] at h1
    subst h1
    simp only [if_true] at hmm
    subst hmm
    obtain ⟨hw1, hw2⟩ := light_slice ht hw
    rw [hc] at hx
    have hx' : ∀ i, i < len → ∃ cs', W.cells? 0 (a.add (i * sz)) sz = some cs' ∧ DataW.trod enc Tryd.prog W 0 (fun _ => true) true n e cs' = some (D i, Q i) := fun i hi => hx i (by omega)
    obtain ⟨C, hC⟩ := choose_lt (α := List Value) hx'
    have hlen : len ≤ 140737488355328 := by
      have : len * 1 ≤ len * Tryd.prog.bytesOf e := Nat.mul_le_mul_left _ hb
      simp only [List.length_map, List.length_range] at hw1
      have h3 : len * Tryd.prog.bytesOf e ≤ (len + (m - len)) * Tryd.prog.bytesOf e := Nat.mul_le_mul_right _ (by omega)
      omega
    refine ⟨len, n, C, D, Q, ⟨hlen, some a, m, rfl, ?_⟩, ?_, fun i hi => ?_⟩
    · by_cases h0 : len = 0
      · exact .inl h0
      right
      obtain ⟨b, off, spot⟩ := a
      have hs : spot = none := by
        obtain ⟨_, h4, h5⟩ := World.cells?_some (hC 0 (by omega)).1
        have h6 := h5 0 hsz
        obtain ⟨u, hu⟩ : ∃ u, (C 0)[0]? = some u := ⟨_, List.getElem?_eq_getElem (by omega)⟩
        rw [hu] at h6
        simpa [Addr.add] using World.cell?_spot h6
      subst hs
      refine ⟨b, off, rfl, fun j hj c hcs => ?_⟩
      obtain ⟨_, h4, h5⟩ := World.cells?_some (hC j hj).1
      have h6 := h5 c hcs
      rw [add_plain, add_plain] at h6
      rw [h6]
      simp [h4, hcs]
    · intro a' k c e
      cases e; exact hl
    · obtain ⟨_, h4, h5⟩ := World.cells?_some (hC i hi).1
      refine ⟨h4, (hC i hi).2, hw2 _ ?_⟩
      exact List.mem_map.2 ⟨i, List.mem_range.2 hi, rfl⟩
theorem Sl2.flat {v : Value} {sz n : Nat} {g : Nat → Nat → Value} (h : Sl2 W v sz n g) (hr : ∀ a k c, v = .slice a k c → k ≤ c) (f : Nat → Value) (hf : ∀ j, j < n → ∀ c, c < sz → f (j * sz + c) = g j c) (hsz : 0 < sz) : Sl W v sz n f := by
  obtain ⟨h1, a, cap, rfl, h2⟩ := h
  refine ⟨h1, ⟨a, cap, rfl, ?_⟩, hr⟩
  rcases h2 with h0 | ⟨b, off, ha, hc⟩
  · exact .inl h0
  refine .inr ⟨b, off, ha, fun j hj => ?_⟩
  have h3 := Nat.div_add_mod j sz
  have h4 := Nat.mod_lt j hsz
  have h5 : j / sz < n := (Nat.div_lt_iff_lt_mul hsz).2 hj
  have h6 := hc (j / sz) h5 (j % sz) h4
  have h7 := hf (j / sz) h5 (j % sz) h4
  have h8 : j / sz * sz + j % sz = j := by rw [Nat.mul_comm]; exact h3
  rw [Nat.add_assoc, h8] at h6
  rw [h8] at h7
  rw [h6, h7]
theorem open_sl {t e : TypeId} {fuel : Nat} {v : Value} {x : DataW H × List MemPlace} (ht : Tryd.prog.underlying t = some (.slice e)) (hc : Tryd.prog.cellsOf e = 1) (hb : 0 < Tryd.prog.bytesOf e)
    (h : DataW.trod enc Tryd.prog W 0 (fun _ => true) true fuel t [v] = some x) (hw : Light t x.1) :
    ∃ (n m : Nat) (V : Nat → Value) (D : Nat → DataW H) (Q : Nat → List MemPlace), Sl W v 1 n V ∧
      ∀ i, i < n → DataW.trod enc Tryd.prog W 0 (fun _ => true) true m e [V i] = some (D i, Q i) ∧ Light e (D i) := by
  obtain ⟨n, m, C, D, Q, h1, h2, h3⟩ := open_sl2 ht hc (by decide) hb h hw
  refine ⟨n, m, fun j => (C j).getD 0 undef, D, Q, h1.flat h2 _ (fun j hj c hcs => ?_) (by decide), fun i hi => ?_⟩
  · obtain rfl : c = 0 := by omega
    simp
  · obtain ⟨h4, h5, h6⟩ := h3 i hi
    refine ⟨?_, h6⟩
    match hCi : C i, h4 with
    | [u], _ => rw [hCi] at h5; simpa [hCi] using h5
theorem range_getD {α : Type} (n : Nat) (f : Nat → α) (d : α) (j : Nat) (h : j < n) : ((List.range n).map f).getD j d = f j := by simp [h]
theorem Ints.open {fuel : Nat} {v : Value} {x : DataW H × List MemPlace} (h : DataW.trod enc Tryd.prog W 0 (fun _ => true) true fuel 26 [v] = some x) (hw : Light 26 x.1) :
    ∃ xs : List Int, Ints W v xs ∧ ∀ i ∈ xs, -9223372036854775808 ≤ i ∧ i ≤ 9223372036854775807 := by
  obtain ⟨n, m, V, D, Q, h1, h2⟩ := open_sl Tryd.underlying26 (by kernel_rfl) (of_decide_eq_true (by kernel_rfl)) h hw
  obtain ⟨Z, hZ⟩ := choose_lt (α := Int) (p := fun i z => V i = .int .i64 z ∧ -9223372036854775808 ≤ z ∧ z ≤ 9223372036854775807) (fun i hi => by
    obtain ⟨z, h4, _, h5⟩ := DataW.trod_int Tryd.underlying3 (h2 i hi).1
    refine ⟨z, by simpa using h4, ?_⟩
    have e1 : IntKind.i64.min = -9223372036854775808 := rfl
    have e2 : IntKind.i64.max = 9223372036854775807 := rfl
    simp only [Lit.wf, Bool.and_eq_true, decide_eq_true_eq] at h5
    omega)
  refine ⟨(List.range n).map Z, ?_, ?_⟩
  · unfold Ints
    rw [List.length_map, List.length_range]
    exact h1.congr fun j hj => (hZ j (by omega)).1.trans (by rw [range_getD _ _ _ _ (by omega)])
  · intro i hi
    obtain ⟨j, hj, rfl⟩ := List.mem_map.1 hi
    exact (hZ j (List.mem_range.1 hj)).2
theorem Strs.open {fuel : Nat} {v : Value} {x : DataW H × List MemPlace} (h : DataW.trod enc Tryd.prog W 0 (fun _ => true) true fuel 25 [v] = some x) (hw : Light 25 x.1) :
    ∃ xs : List ByteArray, Strs W v xs := by
  obtain ⟨n, m, V, D, Q, h1, h2⟩ := open_sl Tryd.underlying25 (by kernel_rfl) (of_decide_eq_true (by kernel_rfl)) h hw
  obtain ⟨Z, hZ⟩ := choose_lt (α := ByteArray) (p := fun i z => V i = .string z ∧ z.size ≤ 140737488355328) (fun i hi => by
    obtain ⟨h3, h4⟩ := h2 i hi
    obtain ⟨z, h5, h6, _⟩ := DataW.trod_string Tryd.underlying9 h3
    simp only [Prod.mk.injEq] at h6
    rw [h6.1] at h4
    exact ⟨z, by simpa using h5, by simpa using light_string h4⟩)
  refine ⟨(List.range n).map Z, ?_, ?_⟩
  · rw [List.length_map, List.length_range]
    exact h1.congr fun j hj => (hZ j (by omega)).1.trans (by rw [range_getD _ _ _ _ (by omega)])
  · intro i hi
    obtain ⟨j, hj, rfl⟩ := List.mem_map.1 hi
    exact (hZ j (List.mem_range.1 hj)).2
end
section
variable {H : Type} {enc : TypeId × Value → H} {W : World}
theorem one_cell {v : Value} (ho : ∃ a n c, v = .slice a n c) : v.cells.toList = [v] := by obtain ⟨a, n, c, rfl⟩ := ho; rfl
theorem Ints.openT {v : Value} {d : DataW H} {ps : List MemPlace} (ho : ∃ a n c, v = .slice a n c) (h : DataW.Trod enc Tryd.prog W 0 (fun _ => true) true 26 v d ps) (hw : Light 26 d) :
    ∃ xs : List Int, Ints W v xs ∧ ∀ i ∈ xs, -9223372036854775808 ≤ i ∧ i ≤ 9223372036854775807 := by
  obtain ⟨fuel, h⟩ := h
  rw [one_cell ho] at h
  exact Ints.open h hw
theorem u8.openT {v : Value} {d : DataW H} {ps : List MemPlace} (h : ∃ n, v = .int .u8 n ∧ d = .lit (.int .u8 n) ∧ ps = [] ∧ (Lit.int .u8 n).wf = true) : ∃ n : Int, v = .int .u8 n ∧ 0 ≤ n ∧ n ≤ 255 := by
  obtain ⟨n, rfl, _, _, hw⟩ := h
  have e1 : IntKind.u8.min = 0 := rfl
  have e2 : IntKind.u8.max = 255 := rfl
  simp only [Lit.wf, Bool.and_eq_true, decide_eq_true_eq] at hw
  exact ⟨n, rfl, by omega, by omega⟩
theorem int.openT {v : Value} {d : DataW H} {ps : List MemPlace} (h : ∃ n, v = .int .i64 n ∧ d = .lit (.int .i64 n) ∧ ps = [] ∧ (Lit.int .i64 n).wf = true) : ∃ n : Int, v = .int .i64 n ∧ -9223372036854775808 ≤ n ∧ n ≤ 9223372036854775807 := by
  obtain ⟨n, rfl, _, _, hw⟩ := h
  exact ⟨n, rfl, wf_range hw⟩
theorem again_all (hl : laidOutB Tryd.prog = true) {W' : World} (hb : Below W.heap.size W W') : ∀ {ts : List TypeId} {vs : List Value} {ds : List (DataW H)} {ps : List MemPlace},
    (ts.all fun t => Tryd.prog.readableRec t && decide (t < Tryd.prog.types.size)) = true → DataW.TrodAll enc Tryd.prog W 0 (fun _ => true) true ts vs ds ps → (∀ x ∈ ps, x.block < W.heap.size) →
    DataW.TrodAll enc Tryd.prog W' 0 (fun b => decide (b < W.heap.size)) true ts vs ds ps := by
  intro ts
  induction ts with
  | nil => intro vs ds ps _ h _; obtain ⟨rfl, rfl, rfl⟩ := Go.ChangeShapes.trodAll_nil h; rfl
  | cons t ts ih =>
    intro vs ds ps ht h hlt
    obtain ⟨v, vs', d, ds', p, q, rfl, rfl, rfl, h1, h2⟩ := Go.ChangeShapes.trodAll_cons h
    simp only [List.all_cons, Bool.and_eq_true, decide_eq_true_eq] at ht
    exact ⟨p, q, Below.trod hl ht.1.1 ht.1.2 h1 hb (fun x hx => hlt x (List.mem_append_left _ hx)), ih (by simpa using ht.2) h2 (fun x hx => hlt x (List.mem_append_right _ hx)), rfl⟩
end
end Go.Proofs.YthnlnffmmioapaaDoor
namespace Go.Proofs.YthnlnffmmioapaaDoor
open Go.RowKit Go.Deep Go.WideShapes
variable {H : Type} {enc : TypeId × Value → H} {W : World}
theorem Str.openT {v : Value} {d : DataW H} {ps : List MemPlace} {t : TypeId} (h : ∃ s : ByteArray, v = .string s ∧ d = .lit (.string s.data.toList) ∧ ps = [] ∧ s.size ≤ maxLen) (hw : Light t d) : ∃ s : ByteArray, v = .string s ∧ s.size ≤ 140737488355328 := by
  obtain ⟨s, rfl, rfl, _, _⟩ := h
  exact ⟨s, rfl, by simpa using light_string hw⟩
end Go.Proofs.YthnlnffmmioapaaDoor
