/-
  Part 15 of the proof: Be38. No statement of the seat is proved here.
-/
import Derived.Test.YtpknpbeiifjmgaaDoorMHSa3814
namespace Go.Proofs.YtpknpbeiifjmgaaDoor
open Go.RowKit
theorem SatY.mono {P : Program} {l : Nat} {args : List Value} {w0 : World} {L : List Res} {R R' : Value → List Res → Prop} (h : SatY P l args w0 L R) (hr : ∀ v L, R v L → R' v L) : SatY P l args w0 L R' :=
  fun w hp => let ⟨fn, t, as2, b, h1, h2⟩ := h w hp; ⟨fn, t, as2, b, h1, h2.mono fun e w' ⟨v, L', a, b, c⟩ => ⟨v, L', a, b, hr _ _ c⟩⟩
section
variable {P : Program} {n : Nat} {w0 : World} {F : Fm} {L : List Res}
theorem bodyM_r3 {r1 r2 r3 : ResultVar} {v1 v2 v3 : Value} {R : Value → List Res → Prop} (h1 : resIs P n F L r1 v1) (h2 : resIs P n F L r2 v2) (h3 : resIs P n F L r3 v3) (h : ∃ L', Ent w0 L L' ∧ R (.tuple #[v1, v2, v3]) L') (hm : marksV (F none) = [] := by exact rfl) : bodyM P n w0 [r1, r2, r3] R .ret F L := by
  unfold bodyM
  obtain ⟨L', e, hR⟩ := h
  exact ⟨[], [v1, v2, v3], L, L', hm, Ent.refl _ _, ⟨h1, h2, h3, trivial⟩, e, hR⟩
theorem bodyM_d3 {r1 r2 r3 : ResultVar} {v1 v2 v3 : Value} {R : Value → List Res → Prop} (D : Nat) (h1 : resIs P n F L r1 v1) (h2 : resIs P n F L r2 v2) (h3 : resIs P n F L r3 v3) (h : ∃ L', Ent w0 L L' ∧ R (.tuple #[v1, v2, v3]) L') (hm : marksV (F none) = [{ target := .collected D, args := #[] }]) : bodyM P n w0 [r1, r2, r3] R .ret F (.mark D :: L) := by
  unfold bodyM
  obtain ⟨L', e, hR⟩ := h
  exact ⟨[D], [v1, v2, v3], L, L', hm, Ent.refl _ _, ⟨h1, h2, h3, trivial⟩, e, hR⟩
end
theorem updo_none1 (F : Fm) (i : Nat) (v : Value) : updo F (some i) v none = F none := rfl
theorem updo_none2 (F : Fm) (v : Value) : updo F none v none = F none := rfl
def best1 (s : Stem) (st : List Int) : List Int × Int := bestA (costN s.par) (asgs (occ st) st)
def BestR (s : Stem) (st : List Int) (u : Value) (L : List Res) : Prop :=
  (chkC s st ≠ 0 ∧ u = .tuple #[.slice none 0 0, .int .i64 0, .int .i64 (chkC s st)] ∧ L = []) ∨
  (chkC s st = 0 ∧ many st = true ∧ u = .tuple #[.slice none 0 0, .int .i64 0, .int .i64 4] ∧ L = []) ∨
  (chkC s st = 0 ∧ many st = false ∧ ∃ a n c, u = .tuple #[.slice a n c, .int .i64 (best1 s st).2, .int .i64 0] ∧ n = (best1 s st).1.length ∧ L = [.row 3 1 (.slice a n c) n (ints (best1 s st).1)])
def bJ (g10 g9 g8 gc gs g2 : Nat) (ca : Option Addr) (cn cc : Nat) (nv ev pv : Value) (s : Stem) (l : List (List Int)) (J : List Res) : Prop :=
  ∃ a n c, n = (bestA (costN s.par) l).1.length ∧ J = [.row 3 1 (.slice a n c) n (ints (bestA (costN s.par) l).1), .box 3 g10 [.int .i64 (bestA (costN s.par) l).2], .box 27 g9 [.slice a n c],
    .box 66 g8 [.func (.func 61) #[] #[.pointer (some ⟨gc, 0, none⟩), .pointer (some ⟨gs, 0, none⟩)]], .row 3 1 (.slice ca cn cc) cn (ints (copL s.par s.par.length)), .box 27 gc [.slice ca cn cc], .box 26 gs [nv, ev, pv], .box 26 g2 [nv, ev, pv]]
theorem ptBox {B : Nat} {w0 w : World} {L : List Res} {e : TypeId} {g : Nat} {cs : List Value} (hp : Hp B w0 w L) (i : Nat) (hi : L[i]? = some (.box e g cs)) (n : Nat) (hn : cs.length = n) : Pt w (.pointer (some ⟨g, 0, none⟩)) n (fun j => cs.getD j undef) :=
  ⟨g, 0, rfl, fun j hj => by rw [Nat.zero_add, (hp.boxAt i hi).1 j]; simp [show j < cs.length by omega]⟩
structure Gh where
  (y m g c gy go gf gv : Nat)
  (ov : Value)
  (o : List Int)
  (pre : List (List Int))
  (J : List Res)
def Gh.Z (x : Gh) (g1 : Nat) (sv : Value) (vs : List Int) : List Res := zA x.y x.m x.g x.c g1 x.gy x.go x.gf x.gv sv x.ov vs
set_option maxRecDepth 100000 in
set_option maxHeartbeats 4000000 in
theorem best_sat (v sv : Value) (s : Stem) (st : List Int) (w : World) (h : Stm w v s) (hs : Ints w sv st) : Sat Tryd.prog 21 [v, sv] w (BestR s st) := by
  have hst := h
  obtain ⟨nv, ev, pv, rfl, hS, _, hP⟩ := h
  have hsi := hs
  obtain ⟨sa, sc, rfl, _⟩ := hs.at
  by_cases hc : chkC s st = 0
  rotate_left
  · refine SatL.ofM 44 [.tmp 4, .tmp 5, .tmp 6] Tryd.func21 (by kernel_rfl) (by kernel_rfl) rfl rfl rfl ?_
    repeat' (first|(apply OK_seq)|(apply thenQ_n)|(apply OK_region)|(apply OKx_gc 31;exact rfl; refine OKx_callV (f := 31) (v := .int .i64 (chkC s st)) rfl rfl rfl (fun w1 hp => Chk_sat _ _ s st w1 (hst.below hp.below) (hsi.below hp.below)) ?_)|(refine OK_rid 15 ?_; refine OK_quiet (id := 15) (by kernel_rfl) (by kernel_rfl) ?_)|(apply OKx_nilK)|(apply OK_block)|(apply blockQ_n)|(apply blockQ_s)|(apply thenQ_e)|(apply blockQ_e;exact rfl)|(apply thenQ_r)|(apply blockQ_r)|(apply OK_condT;exact rfl)|(apply OK_condF;exact rfl)|(apply OK_skip)|(apply OK_exit)|(apply OK_ret)|(apply OKx_move;(conv=>lhs;whnf)<;>exact rfl)|(apply OKx_assign;(conv=>lhs;whnf)<;>exact rfl)|(apply OKx_ldB;exact rfl;(first | exact at0|exact at1|exact at2|exact at3|exact at4|exact at5|exact at6|exact at7);exact rfl)|(apply OKx_ldR;(conv=>lhs;whnf)<;>exact rfl;(with_reducible assumption))|(apply OKx_ldI;exact rfl;(first | exact at0|exact at1|exact at2|exact at3|exact at4|exact at5|exact at6|exact at7);omega)|(apply OKx_lss;exact rfl;exact rfl;all_goals (intro _; try (exfalso;omega)))|(apply OKx_eql;exact rfl;exact rfl;all_goals (intro _; try (exfalso;omega)))|(apply OKx_neq;exact rfl;exact rfl;all_goals (intro _; try (exfalso;omega)))|(apply OKx_max;exact rfl;exact rfl)|(apply OKx_pickT;exact rfl;(conv=>lhs;whnf)<;>exact rfl)|(apply OKx_pickF;exact rfl;(conv=>lhs;whnf)<;>exact rfl)|(apply OKx_guardT;exact rfl;exact rfl)|(apply OKx_guardF;exact rfl;exact rfl)|(apply OKx_guardU;exact rfl;exact rfl)|(apply OKx_boxA;exact rfl;intro _)|(apply OKx_alloc1;intro _)|(apply OKx_ldBA;exact rfl;(first | exact at0|exact at1|exact at2|exact at3|exact at4|exact at5|exact at6|exact at7);exact rfl)|(apply OKx_ldRA;(conv=>lhs;whnf)<;>exact rfl;(with_reducible assumption))|(apply OKx_stI;exact rfl;exact rfl;(first | exact at0|exact at1|exact at2|exact at3|exact at4|exact at5|exact at6|exact at7);omega;exact rfl)|(apply OKx_stB;exact rfl;(conv=>lhs;whnf)<;>exact rfl;exact rfl;exact rfl;(first | exact at0|exact at1|exact at2|exact at3|exact at4|exact at5|exact at6|exact at7);exact rfl;exact rfl;exact rfl))
    refine bodyM_r3 (resIs_tmp (by ((conv=>lhs;whnf)<;>exact rfl))) (resIs_tmp (by ((conv=>lhs;whnf)<;>exact rfl))) (resIs_tmp (by ((conv=>lhs;whnf)<;>exact rfl))) ⟨_, Ent.nil, .inl ⟨hc, rfl, rfl⟩⟩
  obtain ⟨hc1, hc2, hc3⟩ := chkC_zero hc
  have hlen := stCheck_len s hc1
  have hok := stCheck_okPar s hc1
  by_cases hm : many st = true
  · refine SatL.ofM 44 [.tmp 4, .tmp 5, .tmp 6] Tryd.func21 (by kernel_rfl) (by kernel_rfl) rfl rfl rfl ?_
    repeat' (first|(apply OK_seq)|(apply thenQ_n)|(apply OK_region)|(apply OKx_gc 31;exact rfl; refine OKx_callV (f := 31) (v := .int .i64 (chkC s st)) rfl rfl rfl (fun w1 hp => Chk_sat _ _ s st w1 (hst.below hp.below) (hsi.below hp.below)) ?_)|(apply OKx_gc 32;exact rfl; refine OKx_callV (f := 32) (v := .bool true) rfl rfl rfl (fun w1 hp => hm ▸ tooMany_sat _ st w1 (hsi.below hp.below) (fun x hx => (hc3 x hx).2) (by omega)) ?_)|(refine OK_rid 15 ?_; refine OK_quiet (id := 15) (by kernel_rfl) (by kernel_rfl) ?_)|(apply OKx_nilK)|(apply OK_block)|(apply blockQ_n)|(apply blockQ_s)|(apply thenQ_e)|(apply blockQ_e;exact rfl)|(apply thenQ_r)|(apply blockQ_r)|(apply OK_condT;exact rfl)|(apply OK_condF;exact rfl)|(apply OK_skip)|(apply OK_exit)|(apply OK_ret)|(apply OKx_move;(conv=>lhs;whnf)<;>exact rfl)|(apply OKx_assign;(conv=>lhs;whnf)<;>exact rfl)|(apply OKx_ldB;exact rfl;(first | exact at0|exact at1|exact at2|exact at3|exact at4|exact at5|exact at6|exact at7);exact rfl)|(apply OKx_ldR;(conv=>lhs;whnf)<;>exact rfl;(with_reducible assumption))|(apply OKx_ldI;exact rfl;(first | exact at0|exact at1|exact at2|exact at3|exact at4|exact at5|exact at6|exact at7);omega)|(apply OKx_lss;exact rfl;exact rfl;all_goals (intro _; try (exfalso;omega)))|(apply OKx_eql;exact rfl;exact rfl;all_goals (intro _; try (exfalso;omega)))|(apply OKx_neq;exact rfl;exact rfl;all_goals (intro _; try (exfalso;omega)))|(apply OKx_max;exact rfl;exact rfl)|(apply OKx_pickT;exact rfl;(conv=>lhs;whnf)<;>exact rfl)|(apply OKx_pickF;exact rfl;(conv=>lhs;whnf)<;>exact rfl)|(apply OKx_guardT;exact rfl;exact rfl)|(apply OKx_guardF;exact rfl;exact rfl)|(apply OKx_guardU;exact rfl;exact rfl)|(apply OKx_boxA;exact rfl;intro _)|(apply OKx_alloc1;intro _)|(apply OKx_ldBA;exact rfl;(first | exact at0|exact at1|exact at2|exact at3|exact at4|exact at5|exact at6|exact at7);exact rfl)|(apply OKx_ldRA;(conv=>lhs;whnf)<;>exact rfl;(with_reducible assumption))|(apply OKx_stI;exact rfl;exact rfl;(first | exact at0|exact at1|exact at2|exact at3|exact at4|exact at5|exact at6|exact at7);omega;exact rfl)|(apply OKx_stB;exact rfl;(conv=>lhs;whnf)<;>exact rfl;exact rfl;exact rfl;(first | exact at0|exact at1|exact at2|exact at3|exact at4|exact at5|exact at6|exact at7);exact rfl;exact rfl;exact rfl))
    refine bodyM_r3 (resIs_tmp (by ((conv=>lhs;whnf)<;>exact rfl))) (resIs_tmp (by ((conv=>lhs;whnf)<;>exact rfl))) (resIs_tmp (by ((conv=>lhs;whnf)<;>exact rfl))) ⟨_, Ent.nil, .inr (.inl ⟨hc, hm, rfl, rfl⟩)⟩
  rw [Bool.not_eq_true] at hm
  refine SatL.ofM 44 [.tmp 4, .tmp 5, .tmp 6] Tryd.func21 (by kernel_rfl) (by kernel_rfl) rfl rfl rfl ?_
  repeat' (first|(apply OK_seq)|(apply thenQ_n)|(apply OK_region)|(apply OKx_gc 31;exact rfl; refine OKx_callV (f := 31) (v := .int .i64 (chkC s st)) rfl rfl rfl (fun w1 hp => Chk_sat _ _ s st w1 (hst.below hp.below) (hsi.below hp.below)) ?_)|(apply OKx_gc 32;exact rfl; refine OKx_callV (f := 32) (v := .bool false) rfl rfl rfl (fun w1 hp => hm ▸ tooMany_sat _ st w1 (hsi.below hp.below) (fun x hx => (hc3 x hx).2) (by omega)) ?_)|(apply OKx_gc 33;exact rfl; refine OKx_call (f := 33) rfl rfl (fun w1 hp => counter_sat nv ev pv s w1 (hst.below hp.below) (by omega)) ?_; rintro _ _ ⟨gc, gs, ca, cn, cc, rfl, hcn, rfl⟩)|(apply OKx_gc 34;exact rfl; refine OKx_call (f := 34) rfl rfl (fun w1 hp => asg_sat sa st.length sc w1) ?_; rintro _ _ ⟨g1, rfl, rfl⟩)|(refine OK_rid 15 ?_; refine OK_quiet (id := 15) (by kernel_rfl) (by kernel_rfl) ?_)|(apply OKx_nilK)|(apply OK_block)|(apply blockQ_n)|(apply blockQ_s)|(apply thenQ_e)|(apply blockQ_e;exact rfl)|(apply thenQ_r)|(apply blockQ_r)|(apply OK_condT;exact rfl)|(apply OK_condF;exact rfl)|(apply OK_skip)|(apply OK_exit)|(apply OK_ret)|(apply OKx_move;(conv=>lhs;whnf)<;>exact rfl)|(apply OKx_assign;(conv=>lhs;whnf)<;>exact rfl)|(apply OKx_ldB;exact rfl;(first | exact at0|exact at1|exact at2|exact at3|exact at4|exact at5|exact at6|exact at7);exact rfl)|(apply OKx_ldR;(conv=>lhs;whnf)<;>exact rfl;(with_reducible assumption))|(apply OKx_ldI;exact rfl;(first | exact at0|exact at1|exact at2|exact at3|exact at4|exact at5|exact at6|exact at7);omega)|(apply OKx_lss;exact rfl;exact rfl;all_goals (intro _; try (exfalso;omega)))|(apply OKx_eql;exact rfl;exact rfl;all_goals (intro _; try (exfalso;omega)))|(apply OKx_neq;exact rfl;exact rfl;all_goals (intro _; try (exfalso;omega)))|(apply OKx_max;exact rfl;exact rfl)|(apply OKx_pickT;exact rfl;(conv=>lhs;whnf)<;>exact rfl)|(apply OKx_pickF;exact rfl;(conv=>lhs;whnf)<;>exact rfl)|(apply OKx_guardT;exact rfl;exact rfl)|(apply OKx_guardF;exact rfl;exact rfl)|(apply OKx_guardU;exact rfl;exact rfl)|(apply OKx_boxA;exact rfl;intro _)|(apply OKx_alloc1;intro _)|(apply OKx_ldBA;exact rfl;(first | exact at0|exact at1|exact at2|exact at3|exact at4|exact at5|exact at6|exact at7);exact rfl)|(apply OKx_ldRA;(conv=>lhs;whnf)<;>exact rfl;(with_reducible assumption))|(apply OKx_stI;exact rfl;exact rfl;(first | exact at0|exact at1|exact at2|exact at3|exact at4|exact at5|exact at6|exact at7);omega;exact rfl)|(apply OKx_stB;exact rfl;(conv=>lhs;whnf)<;>exact rfl;exact rfl;exact rfl;(first | exact at0|exact at1|exact at2|exact at3|exact at4|exact at5|exact at6|exact at7);exact rfl;exact rfl;exact rfl))
  rename_i g2 _ g8 g9 g10
  have hN8 : st.length ≤ 1000 := by omega
  have hr : ∀ x ∈ st, x < 16 := fun x hx => (hc3 x hx).2
  have hcn8 : cn ≤ 1000 := by
    have h1 := copL_len s.par s.par.length
    have h2 := copN_len s.par s.par.length
    omega
  have hspec := bestA_spec (costN s.par) (asgs (occ st) st) (asgs_ne _ (occ_pos st) st)
  have hpos : 0 ≤ (best1 s st).2 := by unfold best1; rw [hspec.2.1]; exact Int.natCast_nonneg _
  have fin : ∀ (F' : Fm) (D : Nat) (a : Option Addr) (n c : Nat) (Z : List Res), marksV (F' none) = [{ target := .collected D, args := #[] }] → rv 44 F' (.tmp 4) = .slice a n c → rv 44 F' (.tmp 5) = .int .i64 (max (best1 s st).2 0) → rv 44 F' (.tmp 6) = .int .i64 0 → n = (best1 s st).1.length →
      bodyM Tryd.prog 44 w [.tmp 4, .tmp 5, .tmp 6] (BestR s st) .ret F' (.mark D :: (.row 3 1 (.slice a n c) n (ints (best1 s st).1) :: Z)) := fun F' D a n c Z hd h4 h5 h6 hn =>
    bodyM_d3 D (resIs_tmp h4) (resIs_tmp h5) (resIs_tmp h6) ⟨_, Ent.pickT [_] Z [0] rfl |>.trans (Ent.sub (List.sublist_append_left _ _)), .inr (.inr ⟨hc, hm, a, n, c, by rw [Int.max_eq_left hpos], hn, rfl⟩)⟩ hd
  refine OK_ent (L' := .box 27 g1 [.slice sa st.length sc] :: [.row 3 1 (.slice none 0 0) 0 (ints (bestA (costN s.par) []).1), .box 3 g10 [.int .i64 (bestA (costN s.par) []).2], .box 27 g9 [.slice none 0 0],
    .box 66 g8 [.func (.func 61) #[] #[.pointer (some ⟨gc, 0, none⟩), .pointer (some ⟨gs, 0, none⟩)]], .row 3 1 (.slice ca cn cc) cn (ints (copL s.par s.par.length)), .box 27 gc [.slice ca cn cc], .box 26 gs [nv, ev, pv], .box 26 g2 [nv, ev, pv]])
    ((Ent.mk fun w1 hp => hp.nil 3 1).trans (Ent.pick [1, 0, 2, 3, 4, 5, 6, 7, 8] rfl)) ?_
  generalize hJP : bJ g10 g9 g8 gc gs g2 ca cn cc nv ev pv s = JP
  refine OK_rangeFunc (σ := Gh) (fun x => rA x.ov st.length x.o :: (x.J ++ x.Z g1 (.slice sa st.length sc) (occ st))) (ps := [25]) (gf := 63) (lb := [.pointer (some ⟨g1, 0, none⟩)]) (by ((conv=>lhs;whnf)<;>exact rfl)) ⟨_, _, Tryd.func63, by kernel_rfl, rfl⟩
    (fun x av => av = [x.ov] ∧ x.o.length = st.length ∧ JP x.pre x.J ∧ (x.pre ++ [x.o]) <+: asgs (occ st) st ∧ (0 < st.length → ∃ g c, x.ov = .slice (some ⟨g, 0, none⟩) st.length c))
    (fun x _ X' => ∃ J', JP (x.pre ++ [x.o]) J' ∧ X' = rA x.ov st.length x.o :: (J' ++ x.Z g1 (.slice sa st.length sc) (occ st)))
    (fun x _ c X' => ∃ J', (c = .exit 0 ∧ ∃ pre, pre <+: asgs (occ st) st ∧ (bestA (costN s.par) pre).2 = 0 ∧ JP pre J') ∧ X' = rA x.ov st.length x.o :: (J' ++ x.Z g1 (.slice sa st.length sc) (occ st)))
    (fun X' => JP (asgs (occ st) st) X') (fun c X' => c = .exit 0 ∧ ∃ pre, pre <+: asgs (occ st) st ∧ (bestA (costN s.par) pre).2 = 0 ∧ JP pre X') ?_ ?_ ?_ ?_ ?_
  · rintro x av ⟨rfl, _⟩
    rfl
  · intro y Br Bd hY
    refine asgI_sat y st.length g1 _ st w _ Br Bd JP (fun c X' => c = .exit 0 ∧ ∃ pre, pre <+: asgs (occ st) st ∧ (bestA (costN s.par) pre).2 = 0 ∧ JP pre X') hsi rfl hN8 hr (by subst hJP; exact ⟨none, 0, 0, rfl, rfl⟩) ?_
    intro m g c gy go gf gv ov o pre J hov ho hJ hpre
    refine (hY ⟨y, m, g, c, gy, go, gf, gv, ov, o, pre, J⟩ [ov] ⟨rfl, ho, hJ, hpre, hov⟩).mono ?_
    rintro u L' (⟨rfl, X', ⟨J', hJ', rfl⟩, rfl⟩ | ⟨rfl, c, X', ⟨J', hJ', rfl⟩, rfl⟩)
    · exact .inl ⟨rfl, J', hJ', rfl⟩
    · exact .inr ⟨rfl, c, J', hJ', rfl⟩
  · subst hJP
    rintro ro B B' ⟨y, m, g, c, gy, go, gf, gv, ov, o, pre, J⟩ av ⟨rfl, ho, ⟨ba, bn, bc, hbn, hJ⟩, hpre, hov⟩
    dsimp only at *
    obtain ⟨go2, co2, rfl⟩ := hov (by omega)
    subst hJ
    have hsn := bestA_snoc (costN s.par) pre o
    generalize hb : bestA (costN s.par) pre = b at *
    obtain ⟨b1, b2⟩ := b
    dsimp only at *
    simp only [rA, Gh.Z, zA, List.cons_append, List.nil_append]
    repeat' (first|(apply OKr_seq)|(apply thenQ_n)|(apply OKr_region;exact rfl)|(refine OKr_rid 15 ?_; refine OKr_quiet (id := 15) (by kernel_rfl) (by kernel_rfl) ?_)|(apply OKx_nilK)|(apply OKr_block)|(apply blockQ_n)|(apply blockQ_s)|(apply thenQ_e)|(apply blockQ_e;exact rfl)|(apply thenQ_r)|(apply blockQ_r)|(apply OKr_condT;exact rfl)|(apply OKr_condF;exact rfl)|(apply OKr_skip)|(apply OKr_exit)|(apply OKr_ret)|(apply OKx_move;(conv=>lhs;whnf)<;>exact rfl)|(apply OKx_assign;(conv=>lhs;whnf)<;>exact rfl)|(apply OKx_ldB;exact rfl;(first | exact at0|exact at1|exact at2|exact at3|exact at4|exact at5|exact at6|exact at7);exact rfl)|(apply OKx_ldR;(conv=>lhs;whnf)<;>exact rfl;(with_reducible assumption))|(apply OKx_ldI;exact rfl;(first | exact at0|exact at1|exact at2|exact at3|exact at4|exact at5|exact at6|exact at7);omega)|(apply OKx_lss;exact rfl;exact rfl;all_goals (intro _; try (exfalso;omega)))|(apply OKx_eql;exact rfl;exact rfl;all_goals (intro _; try (exfalso;omega)))|(apply OKx_neq;exact rfl;exact rfl;all_goals (intro _; try (exfalso;omega)))|(apply OKx_max;exact rfl;exact rfl)|(apply OKx_pickT;exact rfl;(conv=>lhs;whnf)<;>exact rfl)|(apply OKx_pickF;exact rfl;(conv=>lhs;whnf)<;>exact rfl)|(apply OKx_guardT;exact rfl;exact rfl)|(apply OKx_guardF;exact rfl;exact rfl)|(apply OKx_guardU;exact rfl;exact rfl)|(apply OKx_boxA;exact rfl;intro _)|(apply OKx_alloc1;intro _)|(apply OKx_ldBA;exact rfl;(first | exact at0|exact at1|exact at2|exact at3|exact at4|exact at5|exact at6|exact at7);exact rfl)|(apply OKx_ldRA;(conv=>lhs;whnf)<;>exact rfl;(with_reducible assumption))|(apply OKx_stI;exact rfl;exact rfl;(first | exact at0|exact at1|exact at2|exact at3|exact at4|exact at5|exact at6|exact at7);omega;exact rfl)|(apply OKx_stB;exact rfl;(conv=>lhs;whnf)<;>exact rfl;exact rfl;exact rfl;(first | exact at0|exact at1|exact at2|exact at3|exact at4|exact at5|exact at6|exact at7);exact rfl;exact rfl;exact rfl))
    refine ⟨[_, _, _, _, _, _, _, _, _, _, _, _, _, _, _], Ent.refl _ _, ?_⟩
    simp only [List.cons_append, List.nil_append]
    repeat' (first|(apply OKr_seq)|(apply thenQ_n)|(apply OKr_region;exact rfl)|(apply OKx_gc 61;exact rfl; refine OKx_callV (f := 61) (v := .int .i64 (costN s.par o : Int)) rfl rfl rfl (fun w1 hp => counter1_sat _ _ (.slice ca cn cc) _ nv ev pv s o w1 ⟨_, _, rfl, (hp.boxAt 6 rfl).1 0⟩ (hp.ints 5 rfl (by omega)) (ptBox hp 7 rfl 3 rfl) (hst.below hp.below) (hp.ints 0 rfl (by omega)) (by omega) hok (by omega)) ?_)|(apply OKx_gc 17;exact rfl; refine OKx_call (f := 17) rfl rfl (fun w1 hp => cloneI_sat _ o w1 (hp.ints 0 rfl (by omega)) (by omega)) ?_; rintro _ _ ⟨⟨na, nc, rfl, _⟩, rfl⟩; rw [List.cons_append, List.nil_append])|(refine OKr_rid 15 ?_; refine OKr_quiet (id := 15) (by kernel_rfl) (by kernel_rfl) ?_)|(apply OKx_nilK)|(apply OKr_block)|(apply blockQ_n)|(apply blockQ_s)|(apply thenQ_e)|(apply blockQ_e;exact rfl)|(apply thenQ_r)|(apply blockQ_r)|(apply OKr_condT;exact rfl)|(apply OKr_condF;exact rfl)|(apply OKr_skip)|(apply OKr_exit)|(apply OKr_ret)|(apply OKx_move;(conv=>lhs;whnf)<;>exact rfl)|(apply OKx_assign;(conv=>lhs;whnf)<;>exact rfl)|(apply OKx_ldB;exact rfl;(first | exact at0|exact at1|exact at2|exact at3|exact at4|exact at5|exact at6|exact at7);exact rfl)|(apply OKx_ldR;(conv=>lhs;whnf)<;>exact rfl;(with_reducible assumption))|(apply OKx_ldI;exact rfl;(first | exact at0|exact at1|exact at2|exact at3|exact at4|exact at5|exact at6|exact at7);omega)|(apply OKx_lss;exact rfl;exact rfl;all_goals (intro _; try (exfalso;omega)))|(apply OKx_eql;exact rfl;exact rfl;all_goals (intro _; try (exfalso;omega)))|(apply OKx_neq;exact rfl;exact rfl;all_goals (intro _; try (exfalso;omega)))|(apply OKx_max;exact rfl;exact rfl)|(apply OKx_pickT;exact rfl;(conv=>lhs;whnf)<;>exact rfl)|(apply OKx_pickF;exact rfl;(conv=>lhs;whnf)<;>exact rfl)|(apply OKx_guardT;exact rfl;exact rfl)|(apply OKx_guardF;exact rfl;exact rfl)|(apply OKx_guardU;exact rfl;exact rfl)|(apply OKx_boxA;exact rfl;intro _)|(apply OKx_alloc1;intro _)|(apply OKx_ldBA;exact rfl;(first | exact at0|exact at1|exact at2|exact at3|exact at4|exact at5|exact at6|exact at7);exact rfl)|(apply OKx_ldRA;(conv=>lhs;whnf)<;>exact rfl;(with_reducible assumption))|(apply OKx_stI;exact rfl;exact rfl;(first | exact at0|exact at1|exact at2|exact at3|exact at4|exact at5|exact at6|exact at7);omega;exact rfl)|(apply OKx_stB;exact rfl;(conv=>lhs;whnf)<;>exact rfl;exact rfl;exact rfl;(first | exact at0|exact at1|exact at2|exact at3|exact at4|exact at5|exact at6|exact at7);exact rfl;exact rfl;exact rfl))
    · unfold bstep at hsn
      rw [if_pos (by dsimp only;omega)] at hsn
      exact ⟨_, Ent.pickT [_, _, _, _, _, _, _, _, _, _, _, _, _, _, _, _] B' [1, 0, 3, 4, 5, 6, 7, 8, 9, 10, 11, 12, 13, 14, 15] rfl, [_, _, _, _, _, _, _, _], ⟨rfl, pre ++ [o], hpre, by rw [hsn]; dsimp only;omega, by unfold bJ; rw [hsn]; exact ⟨_, _, _, rfl, rfl⟩⟩, rfl⟩
    · unfold bstep at hsn
      rw [if_pos (by dsimp only;omega)] at hsn
      exact ⟨_, Ent.pickT [_, _, _, _, _, _, _, _, _, _, _, _, _, _, _, _] B' [1, 0, 3, 4, 5, 6, 7, 8, 9, 10, 11, 12, 13, 14, 15] rfl, [_, _, _, _, _, _, _, _], by unfold bJ; rw [hsn]; exact ⟨_, _, _, rfl, rfl⟩, rfl⟩
    · unfold bstep at hsn
      rw [if_pos (by dsimp only;omega)] at hsn
      exact ⟨_, Ent.pickT [_, _, _, _, _, _, _, _, _, _, _, _, _, _, _, _] B' [1, 0, 3, 4, 5, 6, 7, 8, 9, 10, 11, 12, 13, 14, 15] rfl, [_, _, _, _, _, _, _, _], ⟨rfl, pre ++ [o], hpre, by rw [hsn]; dsimp only;omega, by unfold bJ; rw [hsn]; exact ⟨_, _, _, rfl, rfl⟩⟩, rfl⟩
    · unfold bstep at hsn
      rw [if_pos (by dsimp only;omega)] at hsn
      exact ⟨_, Ent.pickT [_, _, _, _, _, _, _, _, _, _, _, _, _, _, _, _] B' [1, 0, 3, 4, 5, 6, 7, 8, 9, 10, 11, 12, 13, 14, 15] rfl, [_, _, _, _, _, _, _, _], by unfold bJ; rw [hsn]; exact ⟨_, _, _, rfl, rfl⟩, rfl⟩
    · unfold bstep at hsn
      rw [if_neg (by dsimp only;omega)] at hsn
      exact ⟨[_, _, _, _, _, _, _, _, _, _, _, _, _, _, _], Ent.refl _ _, [_, _, _, _, _, _, _, _], ⟨rfl, pre ++ [o], hpre, by rw [hsn]; dsimp only;omega, by unfold bJ; rw [hsn]; exact ⟨_, _, _, hbn, rfl⟩⟩, rfl⟩
    · unfold bstep at hsn
      rw [if_neg (by dsimp only;omega)] at hsn
      exact ⟨[_, _, _, _, _, _, _, _, _, _, _, _, _, _, _], Ent.refl _ _, [_, _, _, _, _, _, _, _], by unfold bJ; rw [hsn]; exact ⟨_, _, _, hbn, rfl⟩, rfl⟩
  · subst hJP
    rintro D X' ⟨ba, bn, bc, hbn, hJ⟩
    subst hJ
    repeat' (first|(apply OK_seq)|(apply thenQ_n)|(apply OK_region)|(refine OK_rid 15 ?_; refine OK_quiet (id := 15) (by kernel_rfl) (by kernel_rfl) ?_)|(apply OKx_nilK)|(apply OK_block)|(apply blockQ_n)|(apply blockQ_s)|(apply thenQ_e)|(apply blockQ_e;exact rfl)|(apply thenQ_r)|(apply blockQ_r)|(apply OK_condT;exact rfl)|(apply OK_condF;exact rfl)|(apply OK_skip)|(apply OK_exit)|(apply OK_ret)|(apply OKx_move;(conv=>lhs;whnf)<;>exact rfl)|(apply OKx_assign;(conv=>lhs;whnf)<;>exact rfl)|(apply OKx_ldB;exact rfl;(first | exact at0|exact at1|exact at2|exact at3|exact at4|exact at5|exact at6|exact at7);exact rfl)|(apply OKx_ldR;(conv=>lhs;whnf)<;>exact rfl;(with_reducible assumption))|(apply OKx_ldI;exact rfl;(first | exact at0|exact at1|exact at2|exact at3|exact at4|exact at5|exact at6|exact at7);omega)|(apply OKx_lss;exact rfl;exact rfl;all_goals (intro _; try (exfalso;omega)))|(apply OKx_eql;exact rfl;exact rfl;all_goals (intro _; try (exfalso;omega)))|(apply OKx_neq;exact rfl;exact rfl;all_goals (intro _; try (exfalso;omega)))|(apply OKx_max;exact rfl;exact rfl)|(apply OKx_pickT;exact rfl;(conv=>lhs;whnf)<;>exact rfl)|(apply OKx_pickF;exact rfl;(conv=>lhs;whnf)<;>exact rfl)|(apply OKx_guardT;exact rfl;exact rfl)|(apply OKx_guardF;exact rfl;exact rfl)|(apply OKx_guardU;exact rfl;exact rfl)|(apply OKx_boxA;exact rfl;intro _)|(apply OKx_alloc1;intro _)|(apply OKx_ldBA;exact rfl;(first | exact at0|exact at1|exact at2|exact at3|exact at4|exact at5|exact at6|exact at7);exact rfl)|(apply OKx_ldRA;(conv=>lhs;whnf)<;>exact rfl;(with_reducible assumption))|(apply OKx_stI;exact rfl;exact rfl;(first | exact at0|exact at1|exact at2|exact at3|exact at4|exact at5|exact at6|exact at7);omega;exact rfl)|(apply OKx_stB;exact rfl;(conv=>lhs;whnf)<;>exact rfl;exact rfl;exact rfl;(first | exact at0|exact at1|exact at2|exact at3|exact at4|exact at5|exact at6|exact at7);exact rfl;exact rfl;exact rfl))
    exact fin _ D _ _ _ _ (by simp only [updo_none1, updo_none2, marks_push]; rfl) (by ((conv=>lhs;whnf)<;>exact rfl)) (by ((conv=>lhs;whnf)<;>exact rfl)) (by ((conv=>lhs;whnf)<;>exact rfl)) hbn
  · subst hJP
    rintro D c X' ⟨rfl, pre, ⟨suf, hsuf⟩, hz, ba, bn, bc, hbn, hJ⟩
    have e : bestA (costN s.par) (asgs (occ st) st) = bestA (costN s.par) pre := by rw [← hsuf]; exact bestA_zero _ _ _ hz
    rw [← e] at hbn hJ
    subst hJ
    refine .inr ⟨0, rfl, ?_⟩
    repeat' (first|(apply OK_seq)|(apply thenQ_n)|(apply OK_region)|(refine OK_rid 15 ?_; refine OK_quiet (id := 15) (by kernel_rfl) (by kernel_rfl) ?_)|(apply OKx_nilK)|(apply OK_block)|(apply blockQ_n)|(apply blockQ_s)|(apply thenQ_e)|(apply blockQ_e;exact rfl)|(apply thenQ_r)|(apply blockQ_r)|(apply OK_condT;exact rfl)|(apply OK_condF;exact rfl)|(apply OK_skip)|(apply OK_exit)|(apply OK_ret)|(apply OKx_move;(conv=>lhs;whnf)<;>exact rfl)|(apply OKx_assign;(conv=>lhs;whnf)<;>exact rfl)|(apply OKx_ldB;exact rfl;(first | exact at0|exact at1|exact at2|exact at3|exact at4|exact at5|exact at6|exact at7);exact rfl)|(apply OKx_ldR;(conv=>lhs;whnf)<;>exact rfl;(with_reducible assumption))|(apply OKx_ldI;exact rfl;(first | exact at0|exact at1|exact at2|exact at3|exact at4|exact at5|exact at6|exact at7);omega)|(apply OKx_lss;exact rfl;exact rfl;all_goals (intro _; try (exfalso;omega)))|(apply OKx_eql;exact rfl;exact rfl;all_goals (intro _; try (exfalso;omega)))|(apply OKx_neq;exact rfl;exact rfl;all_goals (intro _; try (exfalso;omega)))|(apply OKx_max;exact rfl;exact rfl)|(apply OKx_pickT;exact rfl;(conv=>lhs;whnf)<;>exact rfl)|(apply OKx_pickF;exact rfl;(conv=>lhs;whnf)<;>exact rfl)|(apply OKx_guardT;exact rfl;exact rfl)|(apply OKx_guardF;exact rfl;exact rfl)|(apply OKx_guardU;exact rfl;exact rfl)|(apply OKx_boxA;exact rfl;intro _)|(apply OKx_alloc1;intro _)|(apply OKx_ldBA;exact rfl;(first | exact at0|exact at1|exact at2|exact at3|exact at4|exact at5|exact at6|exact at7);exact rfl)|(apply OKx_ldRA;(conv=>lhs;whnf)<;>exact rfl;(with_reducible assumption))|(apply OKx_stI;exact rfl;exact rfl;(first | exact at0|exact at1|exact at2|exact at3|exact at4|exact at5|exact at6|exact at7);omega;exact rfl)|(apply OKx_stB;exact rfl;(conv=>lhs;whnf)<;>exact rfl;exact rfl;exact rfl;(first | exact at0|exact at1|exact at2|exact at3|exact at4|exact at5|exact at6|exact at7);exact rfl;exact rfl;exact rfl))
    exact fin _ D _ _ _ _ (by simp only [updo_none1, updo_none2, marks_push]; rfl) (by ((conv=>lhs;whnf)<;>exact rfl)) (by ((conv=>lhs;whnf)<;>exact rfl)) (by ((conv=>lhs;whnf)<;>exact rfl)) hbn
end Go.Proofs.YtpknpbeiifjmgaaDoor
