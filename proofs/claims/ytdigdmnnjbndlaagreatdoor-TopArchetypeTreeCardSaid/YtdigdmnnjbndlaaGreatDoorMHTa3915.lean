/-
  Part 15 of the proof: Be38, Sc38, Pd38, Pe38, Pl39. No statement of the seat is proved here.
-/
import Derived.Test.YtdigdmnnjbndlaaGreatDoorMHTa3914
namespace Go.Proofs.YtdigdmnnjbndlaaGreatDoor
open Go.RowKit
theorem SatY.mono {P : Program} {l : Nat} {args : List Value} {w0 : World} {L : List Res} {R R' : Value → List Res → Prop} (h : SatY P l args w0 L R) (hr : ∀ v L, R v L → R' v L) : SatY P l args w0 L R' :=
  fun w hp => let ⟨fn, t, as2, b, h1, h2⟩ := h w hp; ⟨fn, t, as2, b, h1, h2.mono fun e w' ⟨v, L', a, b, c⟩ => ⟨v, L', a, b, hr _ _ c⟩⟩
section
variable {P : Program} {n : Nat} {w0 : World} {F : Fm} {L : List Res}
theorem bodyM_r3 {r1 r2 r3 : ResultVar} {v1 v2 v3 : Value} {R : Value → List Res → Prop} (h1 : resIs P n F L r1 v1) (h2 : resIs P n F L r2 v2) (h3 : resIs P n F L r3 v3) (h : ∃ L', Ent w0 L L' ∧ R (.tuple #[v1, v2, v3]) L') (hm : marksV (F none) = [] := by exact rfl) : bodyM P n w0 [r1, r2, r3] R .ret F L := by
  unfold bodyM
  obtain ⟨L', e, hR⟩ := h
  exact ⟨[], [v1, v2, v3], L, L', hm, Ent.refl _ _, ⟨h1, h2, h3, trivial⟩, e, hR⟩
theorem bodyM_d3 {r1 r2 r3 : ResultVar} {v1 v2 v3 : Value} {R : Value → List Res → Prop} (D : Nat) (h1 : resIs P n F L r1 v1) (h2 : resIs P n F L r2 v2) (h3 : resIs P n F L r3 v3) (h : ∃ L', Ent w0 L L' ∧ R (.tuple #[v1, v2, v3]) L') (hm : marksV (F none) = [{ target := .collected D, args := #[] }]) : bodyM P n w0 [r1, r2, r3] R .ret F (.mark D :: L) := by
  unfold bodyM
  obtain ⟨L', e, hR⟩ := h
  exact ⟨[D], [v1, v2, v3], L, L', hm, Ent.refl _ _, ⟨h1, h2, h3, trivial⟩, e, hR⟩
end
theorem updo_none1 (F : Fm) (i : Nat) (v : Value) : updo F (some i) v none = F none := rfl
theorem updo_none2 (F : Fm) (v : Value) : updo F none v none = F none := rfl
def best1 (s : Stem) (st : List Int) : List Int × Int := bestA (costN s.par) (asgs (occ st) st)
def BestR (s : Stem) (st : List Int) (u : Value) (L : List Res) : Prop :=
  (chkC s st ≠ 0 ∧ u = .tuple #[.slice none 0 0, .int .i64 0, .int .i64 (chkC s st)] ∧ L = []) ∨
  (chkC s st = 0 ∧ many st = true ∧ u = .tuple #[.slice none 0 0, .int .i64 0, .int .i64 4] ∧ L = []) ∨
  (chkC s st = 0 ∧ many st = false ∧ ∃ a n c, u = .tuple #[.slice a n c, .int .i64 (best1 s st).2, .int .i64 0] ∧ n = (best1 s st).1.length ∧ L = [.row 3 1 (.slice a n c) n (ints (best1 s st).1)])
def bJ (g10 g9 g8 gc gs g2 : Nat) (ca : Option Addr) (cn cc : Nat) (nv ev pv : Value) (s : Stem) (l : List (List Int)) (J : List Res) : Prop :=
  ∃ a n c, n = (bestA (costN s.par) l).1.length ∧ J = [.row 3 1 (.slice a n c) n (ints (bestA (costN s.par) l).1), .box 3 g10 [.int .i64 (bestA (costN s.par) l).2], .box 22 g9 [.slice a n c],
    .box 127 g8 [.func (.func 127) #[] #[.pointer (some ⟨gc, 0, none⟩), .pointer (some ⟨gs, 0, none⟩)]], .row 3 1 (.slice ca cn cc) cn (ints (copL s.par s.par.length)), .box 22 gc [.slice ca cn cc], .box 34 gs [nv, ev, pv], .box 34 g2 [nv, ev, pv]]
theorem ptBox {B : Nat} {w0 w : World} {L : List Res} {e : TypeId} {g : Nat} {cs : List Value} (hp : Hp B w0 w L) (i : Nat) (hi : L[i]? = some (.box e g cs)) (n : Nat) (hn : cs.length = n) : Pt w (.pointer (some ⟨g, 0, none⟩)) n (fun j => cs.getD j undef) :=
  ⟨g, 0, rfl, fun j hj => by rw [Nat.zero_add, (hp.boxAt i hi).1 j]; simp [show j < cs.length by omega]⟩
structure Gh where
  (y m g c gy go gf gv : Nat)
  (ov : Value)
  (o : List Int)
  (pre : List (List Int))
  (J : List Res)
def Gh.Z (x : Gh) (g1 : Nat) (sv : Value) (vs : List Int) : List Res := zA x.y x.m x.g x.c g1 x.gy x.go x.gf x.gv sv x.ov vs
set_option maxRecDepth 100000 in
set_option maxHeartbeats 4000000 in
theorem best_sat (v sv : Value) (s : Stem) (st : List Int) (w : World) (h : Stm w v s) (hs : Ints w sv st) : Sat Tryz.prog 51 [v, sv] w (BestR s st) := by
  have hst := h
  obtain ⟨nv, ev, pv, rfl, hS, _, hP⟩ := h
  have hsi := hs
  obtain ⟨sa, sc, rfl, _⟩ := hs.at
  by_cases hc : chkC s st = 0
  rotate_left
  · refine SatL.ofM 44 [.tmp 4, .tmp 5, .tmp 6] Tryz.func51 (by kernel_rfl) (by kernel_rfl) rfl rfl rfl ?_
    repeat' (first|(apply OK_seq)|(apply thenQ_n)|(apply OK_region)|(apply OKx_gc 82;exact rfl; refine OKx_callV (f := 82) (v := .int .i64 (chkC s st)) rfl rfl rfl (fun w1 hp => Chk_sat _ _ s st w1 (hst.below hp.below) (hsi.below hp.below)) ?_)|(refine OK_rid 15 ?_; refine OK_quiet (id := 15) (by kernel_rfl) (by kernel_rfl) ?_)|(apply OKx_nilK)|(apply OK_block)|(apply blockQ_n)|(apply blockQ_s)|(apply thenQ_e)|(apply blockQ_e;exact rfl)|(apply thenQ_r)|(apply blockQ_r)|(apply OK_condT;exact rfl)|(apply OK_condF;exact rfl)|(apply OK_skip)|(apply OK_exit)|(apply OK_ret)|(apply OKx_move;(conv=>lhs;whnf)<;>exact rfl)|(apply OKx_assign;(conv=>lhs;whnf)<;>exact rfl)|(apply OKx_ldB;exact rfl;(first | exact at0|exact at1|exact at2|exact at3|exact at4|exact at5|exact at6|exact at7);exact rfl)|(apply OKx_ldR;(conv=>lhs;whnf)<;>exact rfl;(with_reducible assumption))|(apply OKx_ldI;exact rfl;(first | exact at0|exact at1|exact at2|exact at3|exact at4|exact at5|exact at6|exact at7);omega)|(apply OKx_lss;exact rfl;exact rfl;all_goals (intro _; try (exfalso;omega)))|(apply OKx_eql;exact rfl;exact rfl;all_goals (intro _; try (exfalso;omega)))|(apply OKx_neq;exact rfl;exact rfl;all_goals (intro _; try (exfalso;omega)))|(apply OKx_max;exact rfl;exact rfl)|(apply OKx_pickT;exact rfl;(conv=>lhs;whnf)<;>exact rfl)|(apply OKx_pickF;exact rfl;(conv=>lhs;whnf)<;>exact rfl)|(apply OKx_guardT;exact rfl;exact rfl)|(apply OKx_guardF;exact rfl;exact rfl)|(apply OKx_guardU;exact rfl;exact rfl)|(apply OKx_boxA;exact rfl;intro _)|(apply OKx_alloc1;intro _)|(apply OKx_ldBA;exact rfl;(first | exact at0|exact at1|exact at2|exact at3|exact at4|exact at5|exact at6|exact at7);exact rfl)|(apply OKx_ldRA;(conv=>lhs;whnf)<;>exact rfl;(with_reducible assumption))|(apply OKx_stI;exact rfl;exact rfl;(first | exact at0|exact at1|exact at2|exact at3|exact at4|exact at5|exact at6|exact at7);omega;exact rfl)|(apply OKx_stB;exact rfl;(conv=>lhs;whnf)<;>exact rfl;exact rfl;exact rfl;(first | exact at0|exact at1|exact at2|exact at3|exact at4|exact at5|exact at6|exact at7);exact rfl;exact rfl;exact rfl))
    refine bodyM_r3 (resIs_tmp (by ((conv=>lhs;whnf)<;>exact rfl))) (resIs_tmp (by ((conv=>lhs;whnf)<;>exact rfl))) (resIs_tmp (by ((conv=>lhs;whnf)<;>exact rfl))) ⟨_, Ent.nil, .inl ⟨hc, rfl, rfl⟩⟩
  obtain ⟨hc1, hc2, hc3⟩ := chkC_zero hc
  have hlen := stCheck_len s hc1
  have hok := stCheck_okPar s hc1
  by_cases hm : many st = true
  · refine SatL.ofM 44 [.tmp 4, .tmp 5, .tmp 6] Tryz.func51 (by kernel_rfl) (by kernel_rfl) rfl rfl rfl ?_
    repeat' (first|(apply OK_seq)|(apply thenQ_n)|(apply OK_region)|(apply OKx_gc 82;exact rfl; refine OKx_callV (f := 82) (v := .int .i64 (chkC s st)) rfl rfl rfl (fun w1 hp => Chk_sat _ _ s st w1 (hst.below hp.below) (hsi.below hp.below)) ?_)|(apply OKx_gc 88;exact rfl; refine OKx_callV (f := 88) (v := .bool true) rfl rfl rfl (fun w1 hp => hm ▸ tooMany_sat _ st w1 (hsi.below hp.below) (fun x hx => (hc3 x hx).2) (by omega)) ?_)|(refine OK_rid 15 ?_; refine OK_quiet (id := 15) (by kernel_rfl) (by kernel_rfl) ?_)|(apply OKx_nilK)|(apply OK_block)|(apply blockQ_n)|(apply blockQ_s)|(apply thenQ_e)|(apply blockQ_e;exact rfl)|(apply thenQ_r)|(apply blockQ_r)|(apply OK_condT;exact rfl)|(apply OK_condF;exact rfl)|(apply OK_skip)|(apply OK_exit)|(apply OK_ret)|(apply OKx_move;(conv=>lhs;whnf)<;>exact rfl)|(apply OKx_assign;(conv=>lhs;whnf)<;>exact rfl)|(apply OKx_ldB;exact rfl;(first | exact at0|exact at1|exact at2|exact at3|exact at4|exact at5|exact at6|exact at7);exact rfl)|(apply OKx_ldR;(conv=>lhs;whnf)<;>exact rfl;(with_reducible assumption))|(apply OKx_ldI;exact rfl;(first | exact at0|exact at1|exact at2|exact at3|exact at4|exact at5|exact at6|exact at7);omega)|(apply OKx_lss;exact rfl;exact rfl;all_goals (intro _; try (exfalso;omega)))|(apply OKx_eql;exact rfl;exact rfl;all_goals (intro _; try (exfalso;omega)))|(apply OKx_neq;exact rfl;exact rfl;all_goals (intro _; try (exfalso;omega)))|(apply OKx_max;exact rfl;exact rfl)|(apply OKx_pickT;exact rfl;(conv=>lhs;whnf)<;>exact rfl)|(apply OKx_pickF;exact rfl;(conv=>lhs;whnf)<;>exact rfl)|(apply OKx_guardT;exact rfl;exact rfl)|(apply OKx_guardF;exact rfl;exact rfl)|(apply OKx_guardU;exact rfl;exact rfl)|(apply OKx_boxA;exact rfl;intro _)|(apply OKx_alloc1;intro _)|(apply OKx_ldBA;exact rfl;(first | exact at0|exact at1|exact at2|exact at3|exact at4|exact at5|exact at6|exact at7);exact rfl)|(apply OKx_ldRA;(conv=>lhs;whnf)<;>exact rfl;(with_reducible assumption))|(apply OKx_stI;exact rfl;exact rfl;(first | exact at0|exact at1|exact at2|exact at3|exact at4|exact at5|exact at6|exact at7);omega;exact rfl)|(apply OKx_stB;exact rfl;(conv=>lhs;whnf)<;>exact rfl;exact rfl;exact rfl;(first | exact at0|exact at1|exact at2|exact at3|exact at4|exact at5|exact at6|exact at7);exact rfl;exact rfl;exact rfl))
    refine bodyM_r3 (resIs_tmp (by ((conv=>lhs;whnf)<;>exact rfl))) (resIs_tmp (by ((conv=>lhs;whnf)<;>exact rfl))) (resIs_tmp (by ((conv=>lhs;whnf)<;>exact rfl))) ⟨_, Ent.nil, .inr (.inl ⟨hc, hm, rfl, rfl⟩)⟩
  rw [Bool.not_eq_true] at hm
  refine SatL.ofM 44 [.tmp 4, .tmp 5, .tmp 6] Tryz.func51 (by kernel_rfl) (by kernel_rfl) rfl rfl rfl ?_
  repeat' (first|(apply OK_seq)|(apply thenQ_n)|(apply OK_region)|(apply OKx_gc 82;exact rfl; refine OKx_callV (f := 82) (v := .int .i64 (chkC s st)) rfl rfl rfl (fun w1 hp => Chk_sat _ _ s st w1 (hst.below hp.below) (hsi.below hp.below)) ?_)|(apply OKx_gc 88;exact rfl; refine OKx_callV (f := 88) (v := .bool false) rfl rfl rfl (fun w1 hp => hm ▸ tooMany_sat _ st w1 (hsi.below hp.below) (fun x hx => (hc3 x hx).2) (by omega)) ?_)|(apply OKx_gc 89;exact rfl; refine OKx_call (f := 89) rfl rfl (fun w1 hp => counter_sat nv ev pv s w1 (hst.below hp.below) (by omega)) ?_; rintro _ _ ⟨gc, gs, ca, cn, cc, rfl, hcn, rfl⟩)|(apply OKx_gc 90;exact rfl; refine OKx_call (f := 90) rfl rfl (fun w1 hp => asg_sat sa st.length sc w1) ?_; rintro _ _ ⟨g1, rfl, rfl⟩)|(refine OK_rid 15 ?_; refine OK_quiet (id := 15) (by kernel_rfl) (by kernel_rfl) ?_)|(apply OKx_nilK)|(apply OK_block)|(apply blockQ_n)|(apply blockQ_s)|(apply thenQ_e)|(apply blockQ_e;exact rfl)|(apply thenQ_r)|(apply blockQ_r)|(apply OK_condT;exact rfl)|(apply OK_condF;exact rfl)|(apply OK_skip)|(apply OK_exit)|(apply OK_ret)|(apply OKx_move;(conv=>lhs;whnf)<;>exact rfl)|(apply OKx_assign;(conv=>lhs;whnf)<;>exact rfl)|(apply OKx_ldB;exact rfl;(first | exact at0|exact at1|exact at2|exact at3|exact at4|exact at5|exact at6|exact at7);exact rfl)|(apply OKx_ldR;(conv=>lhs;whnf)<;>exact rfl;(with_reducible assumption))|(apply OKx_ldI;exact rfl;(first | exact at0|exact at1|exact at2|exact at3|exact at4|exact at5|exact at6|exact at7);omega)|(apply OKx_lss;exact rfl;exact rfl;all_goals (intro _; try (exfalso;omega)))|(apply OKx_eql;exact rfl;exact rfl;all_goals (intro _; try (exfalso;omega)))|(apply OKx_neq;exact rfl;exact rfl;all_goals (intro _; try (exfalso;omega)))|(apply OKx_max;exact rfl;exact rfl)|(apply OKx_pickT;exact rfl;(conv=>lhs;whnf)<;>exact rfl)|(apply OKx_pickF;exact rfl;(conv=>lhs;whnf)<;>exact rfl)|(apply OKx_guardT;exact rfl;exact rfl)|(apply OKx_guardF;exact rfl;exact rfl)|(apply OKx_guardU;exact rfl;exact rfl)|(apply OKx_boxA;exact rfl;intro _)|(apply OKx_alloc1;intro _)|(apply OKx_ldBA;exact rfl;(first | exact at0|exact at1|exact at2|exact at3|exact at4|exact at5|exact at6|exact at7);exact rfl)|(apply OKx_ldRA;(conv=>lhs;whnf)<;>exact rfl;(with_reducible assumption))|(apply OKx_stI;exact rfl;exact rfl;(first | exact at0|exact at1|exact at2|exact at3|exact at4|exact at5|exact at6|exact at7);omega;exact rfl)|(apply OKx_stB;exact rfl;(conv=>lhs;whnf)<;>exact rfl;exact rfl;exact rfl;(first | exact at0|exact at1|exact at2|exact at3|exact at4|exact at5|exact at6|exact at7);exact rfl;exact rfl;exact rfl))
  rename_i g2 _ g8 g9 g10
  have hN8 : st.length ≤ 1000 := by omega
  have hr : ∀ x ∈ st, x < 16 := fun x hx => (hc3 x hx).2
  have hcn8 : cn ≤ 1000 := by
    have h1 := copL_len s.par s.par.length
    have h2 := copN_len s.par s.par.length
    omega
  have hspec := bestA_spec (costN s.par) (asgs (occ st) st) (asgs_ne _ (occ_pos st) st)
  have hpos : 0 ≤ (best1 s st).2 := by unfold best1; rw [hspec.2.1]; exact Int.natCast_nonneg _
  have fin : ∀ (F' : Fm) (D : Nat) (a : Option Addr) (n c : Nat) (Z : List Res), marksV (F' none) = [{ target := .collected D, args := #[] }] → rv 44 F' (.tmp 4) = .slice a n c → rv 44 F' (.tmp 5) = .int .i64 (max (best1 s st).2 0) → rv 44 F' (.tmp 6) = .int .i64 0 → n = (best1 s st).1.length →
      bodyM Tryz.prog 44 w [.tmp 4, .tmp 5, .tmp 6] (BestR s st) .ret F' (.mark D :: (.row 3 1 (.slice a n c) n (ints (best1 s st).1) :: Z)) := fun F' D a n c Z hd h4 h5 h6 hn =>
    bodyM_d3 D (resIs_tmp h4) (resIs_tmp h5) (resIs_tmp h6) ⟨_, Ent.pickT [_] Z [0] rfl |>.trans (Ent.sub (List.sublist_append_left _ _)), .inr (.inr ⟨hc, hm, a, n, c, by rw [Int.max_eq_left hpos], hn, rfl⟩)⟩ hd
  refine OK_ent (L' := .box 22 g1 [.slice sa st.length sc] :: [.row 3 1 (.slice none 0 0) 0 (ints (bestA (costN s.par) []).1), .box 3 g10 [.int .i64 (bestA (costN s.par) []).2], .box 22 g9 [.slice none 0 0],
    .box 127 g8 [.func (.func 127) #[] #[.pointer (some ⟨gc, 0, none⟩), .pointer (some ⟨gs, 0, none⟩)]], .row 3 1 (.slice ca cn cc) cn (ints (copL s.par s.par.length)), .box 22 gc [.slice ca cn cc], .box 34 gs [nv, ev, pv], .box 34 g2 [nv, ev, pv]])
    ((Ent.mk fun w1 hp => hp.nil 3 1).trans (Ent.pick [1, 0, 2, 3, 4, 5, 6, 7, 8] rfl)) ?_
  generalize hJP : bJ g10 g9 g8 gc gs g2 ca cn cc nv ev pv s = JP
  refine OK_rangeFunc (σ := Gh) (fun x => rA x.ov st.length x.o :: (x.J ++ x.Z g1 (.slice sa st.length sc) (occ st))) (ps := [25]) (gf := 128) (lb := [.pointer (some ⟨g1, 0, none⟩)]) (by ((conv=>lhs;whnf)<;>exact rfl)) ⟨_, _, Tryz.func128, by kernel_rfl, rfl⟩
    (fun x av => av = [x.ov] ∧ x.o.length = st.length ∧ JP x.pre x.J ∧ (x.pre ++ [x.o]) <+: asgs (occ st) st ∧ (0 < st.length → ∃ g c, x.ov = .slice (some ⟨g, 0, none⟩) st.length c))
    (fun x _ X' => ∃ J', JP (x.pre ++ [x.o]) J' ∧ X' = rA x.ov st.length x.o :: (J' ++ x.Z g1 (.slice sa st.length sc) (occ st)))
    (fun x _ c X' => ∃ J', (c = .exit 0 ∧ ∃ pre, pre <+: asgs (occ st) st ∧ (bestA (costN s.par) pre).2 = 0 ∧ JP pre J') ∧ X' = rA x.ov st.length x.o :: (J' ++ x.Z g1 (.slice sa st.length sc) (occ st)))
    (fun X' => JP (asgs (occ st) st) X') (fun c X' => c = .exit 0 ∧ ∃ pre, pre <+: asgs (occ st) st ∧ (bestA (costN s.par) pre).2 = 0 ∧ JP pre X') ?_ ?_ ?_ ?_ ?_
  · rintro x av ⟨rfl, _⟩
    rfl
  · intro y Br Bd hY
    refine asgI_sat y st.length g1 _ st w _ Br Bd JP (fun c X' => c = .exit 0 ∧ ∃ pre, pre <+: asgs (occ st) st ∧ (bestA (costN s.par) pre).2 = 0 ∧ JP pre X') hsi rfl hN8 hr (by subst hJP; exact ⟨none, 0, 0, rfl, rfl⟩) ?_
    intro m g c gy go gf gv ov o pre J hov ho hJ hpre
    refine (hY ⟨y, m, g, c, gy, go, gf, gv, ov, o, pre, J⟩ [ov] ⟨rfl, ho, hJ, hpre, hov⟩).mono ?_
    rintro u L' (⟨rfl, X', ⟨J', hJ', rfl⟩, rfl⟩ | ⟨rfl, c, X', ⟨J', hJ', rfl⟩, rfl⟩)
    · exact .inl ⟨rfl, J', hJ', rfl⟩
    · exact .inr ⟨rfl, c, J', hJ', rfl⟩
  · subst hJP
    rintro ro B B' ⟨y, m, g, c, gy, go, gf, gv, ov, o, pre, J⟩ av ⟨rfl, ho, ⟨ba, bn, bc, hbn, hJ⟩, hpre, hov⟩
    dsimp only at *
    obtain ⟨go2, co2, rfl⟩ := hov (by omega)
    subst hJ
    have hsn := bestA_snoc (costN s.par) pre o
    generalize hb : bestA (costN s.par) pre = b at *
    obtain ⟨b1, b2⟩ := b
    dsimp only at *
    simp only [rA, Gh.Z, zA, List.cons_append, List.nil_append]
    repeat' (first|(apply OKr_seq)|(apply thenQ_n)|(apply OKr_region;exact rfl)|(refine OKr_rid 15 ?_; refine OKr_quiet (id := 15) (by kernel_rfl) (by kernel_rfl) ?_)|(apply OKx_nilK)|(apply OKr_block)|(apply blockQ_n)|(apply blockQ_s)|(apply thenQ_e)|(apply blockQ_e;exact rfl)|(apply thenQ_r)|(apply blockQ_r)|(apply OKr_condT;exact rfl)|(apply OKr_condF;exact rfl)|(apply OKr_skip)|(apply OKr_exit)|(apply OKr_ret)|(apply OKx_move;(conv=>lhs;whnf)<;>exact rfl)|(apply OKx_assign;(conv=>lhs;whnf)<;>exact rfl)|(apply OKx_ldB;exact rfl;(first | exact at0|exact at1|exact at2|exact at3|exact at4|exact at5|exact at6|exact at7);exact rfl)|(apply OKx_ldR;(conv=>lhs;whnf)<;>exact rfl;(with_reducible assumption))|(apply OKx_ldI;exact rfl;(first | exact at0|exact at1|exact at2|exact at3|exact at4|exact at5|exact at6|exact at7);omega)|(apply OKx_lss;exact rfl;exact rfl;all_goals (intro _; try (exfalso;omega)))|(apply OKx_eql;exact rfl;exact rfl;all_goals (intro _; try (exfalso;omega)))|(apply OKx_neq;exact rfl;exact rfl;all_goals (intro _; try (exfalso;omega)))|(apply OKx_max;exact rfl;exact rfl)|(apply OKx_pickT;exact rfl;(conv=>lhs;whnf)<;>exact rfl)|(apply OKx_pickF;exact rfl;(conv=>lhs;whnf)<;>exact rfl)|(apply OKx_guardT;exact rfl;exact rfl)|(apply OKx_guardF;exact rfl;exact rfl)|(apply OKx_guardU;exact rfl;exact rfl)|(apply OKx_boxA;exact rfl;intro _)|(apply OKx_alloc1;intro _)|(apply OKx_ldBA;exact rfl;(first | exact at0|exact at1|exact at2|exact at3|exact at4|exact at5|exact at6|exact at7);exact rfl)|(apply OKx_ldRA;(conv=>lhs;whnf)<;>exact rfl;(with_reducible assumption))|(apply OKx_stI;exact rfl;exact rfl;(first | exact at0|exact at1|exact at2|exact at3|exact at4|exact at5|exact at6|exact at7);omega;exact rfl)|(apply OKx_stB;exact rfl;(conv=>lhs;whnf)<;>exact rfl;exact rfl;exact rfl;(first | exact at0|exact at1|exact at2|exact at3|exact at4|exact at5|exact at6|exact at7);exact rfl;exact rfl;exact rfl))
    refine ⟨[_, _, _, _, _, _, _, _, _, _, _, _, _, _, _], Ent.refl _ _, ?_⟩
    simp only [List.cons_append, List.nil_append]
    repeat' (first|(apply OKr_seq)|(apply thenQ_n)|(apply OKr_region;exact rfl)|(apply OKx_gc 127;exact rfl; refine OKx_callV (f := 127) (v := .int .i64 (costN s.par o : Int)) rfl rfl rfl (fun w1 hp => counter1_sat _ _ (.slice ca cn cc) _ nv ev pv s o w1 ⟨_, _, rfl, (hp.boxAt 6 rfl).1 0⟩ (hp.ints 5 rfl (by omega)) (ptBox hp 7 rfl 3 rfl) (hst.below hp.below) (hp.ints 0 rfl (by omega)) (by omega) hok (by omega)) ?_)|(apply OKx_gc 91;exact rfl; refine OKx_call (f := 91) rfl rfl (fun w1 hp => cloneI_sat _ o w1 (hp.ints 0 rfl (by omega)) (by omega)) ?_; rintro _ _ ⟨⟨na, nc, rfl, _⟩, rfl⟩; rw [List.cons_append, List.nil_append])|(refine OKr_rid 15 ?_; refine OKr_quiet (id := 15) (by kernel_rfl) (by kernel_rfl) ?_)|(apply OKx_nilK)|(apply OKr_block)|(apply blockQ_n)|(apply blockQ_s)|(apply thenQ_e)|(apply blockQ_e;exact rfl)|(apply thenQ_r)|(apply blockQ_r)|(apply OKr_condT;exact rfl)|(apply OKr_condF;exact rfl)|(apply OKr_skip)|(apply OKr_exit)|(apply OKr_ret)|(apply OKx_move;(conv=>lhs;whnf)<;>exact rfl)|(apply OKx_assign;(conv=>lhs;whnf)<;>exact rfl)|(apply OKx_ldB;exact rfl;(first | exact at0|exact at1|exact at2|exact at3|exact at4|exact at5|exact at6|exact at7);exact rfl)|(apply OKx_ldR;(conv=>lhs;whnf)<;>exact rfl;(with_reducible assumption))|(apply OKx_ldI;exact rfl;(first | exact at0|exact at1|exact at2|exact at3|exact at4|exact at5|exact at6|exact at7);omega)|(apply OKx_lss;exact rfl;exact rfl;all_goals (intro _; try (exfalso;omega)))|(apply OKx_eql;exact rfl;exact rfl;all_goals (intro _; try (exfalso;omega)))|(apply OKx_neq;exact rfl;exact rfl;all_goals (intro _; try (exfalso;omega)))|(apply OKx_max;exact rfl;exact rfl)|(apply OKx_pickT;exact rfl;(conv=>lhs;whnf)<;>exact rfl)|(apply OKx_pickF;exact rfl;(conv=>lhs;whnf)<;>exact rfl)|(apply OKx_guardT;exact rfl;exact rfl)|(apply OKx_guardF;exact rfl;exact rfl)|(apply OKx_guardU;exact rfl;exact rfl)|(apply OKx_boxA;exact rfl;intro _)|(apply OKx_alloc1;intro _)|(apply OKx_ldBA;exact rfl;(first | exact at0|exact at1|exact at2|exact at3|exact at4|exact at5|exact at6|exact at7);exact rfl)|(apply OKx_ldRA;(conv=>lhs;whnf)<;>exact rfl;(with_reducible assumption))|(apply OKx_stI;exact rfl;exact rfl;(first | exact at0|exact at1|exact at2|exact at3|exact at4|exact at5|exact at6|exact at7);omega;exact rfl)|(apply OKx_stB;exact rfl;(conv=>lhs;whnf)<;>exact rfl;exact rfl;exact rfl;(first | exact at0|exact at1|exact at2|exact at3|exact at4|exact at5|exact at6|exact at7);exact rfl;exact rfl;exact rfl))
    · unfold bstep at hsn
      rw [if_pos (by dsimp only;omega)] at hsn
      exact ⟨_, Ent.pickT [_, _, _, _, _, _, _, _, _, _, _, _, _, _, _, _] B' [1, 0, 3, 4, 5, 6, 7, 8, 9, 10, 11, 12, 13, 14, 15] rfl, [_, _, _, _, _, _, _, _], ⟨rfl, pre ++ [o], hpre, by rw [hsn]; dsimp only;omega, by unfold bJ; rw [hsn]; exact ⟨_, _, _, rfl, rfl⟩⟩, rfl⟩
    · unfold bstep at hsn
      rw [if_pos (by dsimp only;omega)] at hsn
      exact ⟨_, Ent.pickT [_, _, _, _, _, _, _, _, _, _, _, _, _, _, _, _] B' [1, 0, 3, 4, 5, 6, 7, 8, 9, 10, 11, 12, 13, 14, 15] rfl, [_, _, _, _, _, _, _, _], by unfold bJ; rw [hsn]; exact ⟨_, _, _, rfl, rfl⟩, rfl⟩
    · unfold bstep at hsn
      rw [if_pos (by dsimp only;omega)] at hsn
      exact ⟨_, Ent.pickT [_, _, _, _, _, _, _, _, _, _, _, _, _, _, _, _] B' [1, 0, 3, 4, 5, 6, 7, 8, 9, 10, 11, 12, 13, 14, 15] rfl, [_, _, _, _, _, _, _, _], ⟨rfl, pre ++ [o], hpre, by rw [hsn]; dsimp only;omega, by unfold bJ; rw [hsn]; exact ⟨_, _, _, rfl, rfl⟩⟩, rfl⟩
    · unfold bstep at hsn
      rw [if_pos (by dsimp only;omega)] at hsn
      exact ⟨_, Ent.pickT [_, _, _, _, _, _, _, _, _, _, _, _, _, _, _, _] B' [1, 0, 3, 4, 5, 6, 7, 8, 9, 10, 11, 12, 13, 14, 15] rfl, [_, _, _, _, _, _, _, _], by unfold bJ; rw [hsn]; exact ⟨_, _, _, rfl, rfl⟩, rfl⟩
    · unfold bstep at hsn
      rw [if_neg (by dsimp only;omega)] at hsn
      exact ⟨[_, _, _, _, _, _, _, _, _, _, _, _, _, _, _], Ent.refl _ _, [_, _, _, _, _, _, _, _], ⟨rfl, pre ++ [o], hpre, by rw [hsn]; dsimp only;omega, by unfold bJ; rw [hsn]; exact ⟨_, _, _, hbn, rfl⟩⟩, rfl⟩
    · unfold bstep at hsn
      rw [if_neg (by dsimp only;omega)] at hsn
      exact ⟨[_, _, _, _, _, _, _, _, _, _, _, _, _, _, _], Ent.refl _ _, [_, _, _, _, _, _, _, _], by unfold bJ; rw [hsn]; exact ⟨_, _, _, hbn, rfl⟩, rfl⟩
  · subst hJP
    rintro D X' ⟨ba, bn, bc, hbn, hJ⟩
    subst hJ
    repeat' (first|(apply OK_seq)|(apply thenQ_n)|(apply OK_region)|(refine OK_rid 15 ?_; refine OK_quiet (id := 15) (by kernel_rfl) (by kernel_rfl) ?_)|(apply OKx_nilK)|(apply OK_block)|(apply blockQ_n)|(apply blockQ_s)|(apply thenQ_e)|(apply blockQ_e;exact rfl)|(apply thenQ_r)|(apply blockQ_r)|(apply OK_condT;exact rfl)|(apply OK_condF;exact rfl)|(apply OK_skip)|(apply OK_exit)|(apply OK_ret)|(apply OKx_move;(conv=>lhs;whnf)<;>exact rfl)|(apply OKx_assign;(conv=>lhs;whnf)<;>exact rfl)|(apply OKx_ldB;exact rfl;(first | exact at0|exact at1|exact at2|exact at3|exact at4|exact at5|exact at6|exact at7);exact rfl)|(apply OKx_ldR;(conv=>lhs;whnf)<;>exact rfl;(with_reducible assumption))|(apply OKx_ldI;exact rfl;(first | exact at0|exact at1|exact at2|exact at3|exact at4|exact at5|exact at6|exact at7);omega)|(apply OKx_lss;exact rfl;exact rfl;all_goals (intro _; try (exfalso;omega)))|(apply OKx_eql;exact rfl;exact rfl;all_goals (intro _; try (exfalso;omega)))|(apply OKx_neq;exact rfl;exact rfl;all_goals (intro _; try (exfalso;omega)))|(apply OKx_max;exact rfl;exact rfl)|(apply OKx_pickT;exact rfl;(conv=>lhs;whnf)<;>exact rfl)|(apply OKx_pickF;exact rfl;(conv=>lhs;whnf)<;>exact rfl)|(apply OKx_guardT;exact rfl;exact rfl)|(apply OKx_guardF;exact rfl;exact rfl)|(apply OKx_guardU;exact rfl;exact rfl)|(apply OKx_boxA;exact rfl;intro _)|(apply OKx_alloc1;intro _)|(apply OKx_ldBA;exact rfl;(first | exact at0|exact at1|exact at2|exact at3|exact at4|exact at5|exact at6|exact at7);exact rfl)|(apply OKx_ldRA;(conv=>lhs;whnf)<;>exact rfl;(with_reducible assumption))|(apply OKx_stI;exact rfl;exact rfl;(first | exact at0|exact at1|exact at2|exact at3|exact at4|exact at5|exact at6|exact at7);omega;exact rfl)|(apply OKx_stB;exact rfl;(conv=>lhs;whnf)<;>exact rfl;exact rfl;exact rfl;(first | exact at0|exact at1|exact at2|exact at3|exact at4|exact at5|exact at6|exact at7);exact rfl;exact rfl;exact rfl))
    exact fin _ D _ _ _ _ (by simp only [updo_none1, updo_none2, marks_push]; rfl) (by ((conv=>lhs;whnf)<;>exact rfl)) (by ((conv=>lhs;whnf)<;>exact rfl)) (by ((conv=>lhs;whnf)<;>exact rfl)) hbn
  · subst hJP
    rintro D c X' ⟨rfl, pre, ⟨suf, hsuf⟩, hz, ba, bn, bc, hbn, hJ⟩
    have e : bestA (costN s.par) (asgs (occ st) st) = bestA (costN s.par) pre := by rw [← hsuf]; exact bestA_zero _ _ _ hz
    rw [← e] at hbn hJ
    subst hJ
    refine .inr ⟨0, rfl, ?_⟩
    repeat' (first|(apply OK_seq)|(apply thenQ_n)|(apply OK_region)|(refine OK_rid 15 ?_; refine OK_quiet (id := 15) (by kernel_rfl) (by kernel_rfl) ?_)|(apply OKx_nilK)|(apply OK_block)|(apply blockQ_n)|(apply blockQ_s)|(apply thenQ_e)|(apply blockQ_e;exact rfl)|(apply thenQ_r)|(apply blockQ_r)|(apply OK_condT;exact rfl)|(apply OK_condF;exact rfl)|(apply OK_skip)|(apply OK_exit)|(apply OK_ret)|(apply OKx_move;(conv=>lhs;whnf)<;>exact rfl)|(apply OKx_assign;(conv=>lhs;whnf)<;>exact rfl)|(apply OKx_ldB;exact rfl;(first | exact at0|exact at1|exact at2|exact at3|exact at4|exact at5|exact at6|exact at7);exact rfl)|(apply OKx_ldR;(conv=>lhs;whnf)<;>exact rfl;(with_reducible assumption))|(apply OKx_ldI;exact rfl;(first | exact at0|exact at1|exact at2|exact at3|exact at4|exact at5|exact at6|exact at7);omega)|(apply OKx_lss;exact rfl;exact rfl;all_goals (intro _; try (exfalso;omega)))|(apply OKx_eql;exact rfl;exact rfl;all_goals (intro _; try (exfalso;omega)))|(apply OKx_neq;exact rfl;exact rfl;all_goals (intro _; try (exfalso;omega)))|(apply OKx_max;exact rfl;exact rfl)|(apply OKx_pickT;exact rfl;(conv=>lhs;whnf)<;>exact rfl)|(apply OKx_pickF;exact rfl;(conv=>lhs;whnf)<;>exact rfl)|(apply OKx_guardT;exact rfl;exact rfl)|(apply OKx_guardF;exact rfl;exact rfl)|(apply OKx_guardU;exact rfl;exact rfl)|(apply OKx_boxA;exact rfl;intro _)|(apply OKx_alloc1;intro _)|(apply OKx_ldBA;exact rfl;(first | exact at0|exact at1|exact at2|exact at3|exact at4|exact at5|exact at6|exact at7);exact rfl)|(apply OKx_ldRA;(conv=>lhs;whnf)<;>exact rfl;(with_reducible assumption))|(apply OKx_stI;exact rfl;exact rfl;(first | exact at0|exact at1|exact at2|exact at3|exact at4|exact at5|exact at6|exact at7);omega;exact rfl)|(apply OKx_stB;exact rfl;(conv=>lhs;whnf)<;>exact rfl;exact rfl;exact rfl;(first | exact at0|exact at1|exact at2|exact at3|exact at4|exact at5|exact at6|exact at7);exact rfl;exact rfl;exact rfl))
    exact fin _ D _ _ _ _ (by simp only [updo_none1, updo_none2, marks_push]; rfl) (by ((conv=>lhs;whnf)<;>exact rfl)) (by ((conv=>lhs;whnf)<;>exact rfl)) (by ((conv=>lhs;whnf)<;>exact rfl)) hbn
end Go.Proofs.YtdigdmnnjbndlaaGreatDoor
namespace Go.Proofs.YtdigdmnnjbndlaaGreatDoor
open Go.RowKit
def scE (s : Stem) (st : List Int) : Int := if chkC s st ≠ 0 then chkC s st else if many st = true then 4 else 0
def scN (s : Stem) (st : List Int) : Int := if scE s st ≠ 0 then 0 else (best1 s st).2
theorem scE_bad {s : Stem} {st : List Int} (h : chkC s st ≠ 0) : scE s st = chkC s st := if_pos h
theorem scE_many {s : Stem} {st : List Int} (h : chkC s st = 0) (hm : many st = true) : scE s st = 4 := by unfold scE; rw [if_neg (by omega), if_pos hm]
theorem scE_ok {s : Stem} {st : List Int} (h : chkC s st = 0) (hm : many st = false) : scE s st = 0 := by unfold scE; rw [if_neg (by omega), if_neg (by rw [hm]; simp)]
theorem scN_bad {s : Stem} {st : List Int} (h : scE s st ≠ 0) : scN s st = 0 := if_pos h
theorem scN_ok {s : Stem} {st : List Int} (h : scE s st = 0) : scN s st = (best1 s st).2 := if_neg (by omega)
set_option maxRecDepth 100000 in
set_option maxHeartbeats 4000000 in
theorem Score_sat (v sv : Value) (s : Stem) (st : List Int) (w : World) (h : Stm w v s) (hs : Ints w sv st) : SatV Tryz.prog 14 [v, sv] w (.tuple #[.int .i64 (scN s st), .int .i64 (scE s st)]) := by
  have hst := h
  obtain ⟨nv, ev, pv, rfl, _, _, _⟩ := h
  refine SatL.of 18 [4, 5] Tryz.func14 (by kernel_rfl) (by kernel_rfl) rfl rfl rfl rfl ?_
  repeat' (first|(apply OK_seq)|(apply thenQ_n)|(apply OK_region)|(apply OKx_gc 51;exact rfl; refine OKx_call (f := 51) rfl rfl (fun w1 hp => best_sat _ _ s st w1 (hst.below hp.below) (hs.below hp.below)) ?_; rintro _ _ (⟨h1, rfl, rfl⟩ | ⟨h1, h2, rfl, rfl⟩ | ⟨h1, h2, a, n, c, rfl, hn, rfl⟩))|(apply OKx_nilK)|(apply OK_block)|(apply blockQ_n)|(apply blockQ_s)|(apply thenQ_e)|(apply blockQ_e;exact rfl)|(apply thenQ_r)|(apply blockQ_r)|(apply OK_condT;exact rfl)|(apply OK_condF;exact rfl)|(apply OK_skip)|(apply OK_exit)|(apply OK_ret)|(apply OKx_move;(conv=>lhs;whnf)<;>exact rfl)|(apply OKx_assign;(conv=>lhs;whnf)<;>exact rfl)|(apply OKx_extract;exact rfl;(conv=>lhs;whnf)<;>exact rfl)|(apply OKx_boxA;exact rfl;intro _)|(apply OKx_ldBA;exact rfl;(first | exact at0|exact at1|exact at2|exact at3|exact at4|exact at5|exact at6|exact at7);exact rfl)|(apply OKx_ldRA;(conv=>lhs;whnf)<;>exact rfl;(with_reducible assumption)))
  · refine bodyQ_r2 (by ((conv=>lhs;whnf)<;>exact rfl)) (by ((conv=>lhs;whnf)<;>exact rfl)) ?_
    have he := scE_bad h1
    exact ⟨_, Ent.nil, by rw [scN_bad (by omega), he], rfl⟩
  · refine bodyQ_r2 (by ((conv=>lhs;whnf)<;>exact rfl)) (by ((conv=>lhs;whnf)<;>exact rfl)) ?_
    have he := scE_many h1 h2
    exact ⟨_, Ent.nil, by rw [scN_bad (by omega), he], rfl⟩
  · refine bodyQ_r2 (by ((conv=>lhs;whnf)<;>exact rfl)) (by ((conv=>lhs;whnf)<;>exact rfl)) ?_
    have he := scE_ok h1 h2
    exact ⟨_, Ent.nil, by rw [scN_ok he, he], rfl⟩
end Go.Proofs.YtdigdmnnjbndlaaGreatDoor
namespace Go.Proofs.YtdigdmnnjbndlaaGreatDoor
theorem getD_mem {α : Type} (l : List α) (i : Nat) (d : α) (h : i < l.length) : l.getD i d ∈ l := by
  rw [getD_lt _ _ _ h]
  exact List.getElem_mem h
end Go.Proofs.YtdigdmnnjbndlaaGreatDoor
namespace Go.Proofs.YtdigdmnnjbndlaaGreatDoor
theorem best1_spec (s : Stem) (st : List Int) : (best1 s st).1 ∈ asgs (occ st) st ∧ (best1 s st).2 = (costN s.par (best1 s st).1 : Int) ∧ ∀ b ∈ asgs (occ st) st, (best1 s st).2 ≤ (costN s.par b : Int) :=
  bestA_spec _ _ (asgs_ne _ (occ_pos st) st)
theorem chkC_le {s : Stem} {st : List Int} (h : chkC s st = 0) : s.par.length = s.names.length ∧ st.length = s.names.length := by
  obtain ⟨h1, h2, _⟩ := chkC_zero h
  obtain ⟨_, _, _, h4, _⟩ := stCheck_len s h1
  exact ⟨h4, by omega⟩
end Go.Proofs.YtdigdmnnjbndlaaGreatDoor
namespace Go.Proofs.YtdigdmnnjbndlaaGreatDoor
def asgU (V : List Int) : List Int → List Int → List (List Int)
  | [], o => [o]
  | u :: us, o => V.flatMap fun v => asgU V us (o.set u.toNat v)
theorem setI_getD (l : List Int) (i j : Nat) (v : Int) (hj : j < l.length) : (l.set i v).getD j 0 = if i = j then v else l.getD j 0 := by
  rw [List.getD_eq_getElem?_getD, List.getElem?_set, List.getD_eq_getElem?_getD]
  split
  · rename_i h; subst h; rw [if_pos hj]; rfl
  · rfl
theorem ext_getD (a b : List Int) (hl : a.length = b.length) (h : ∀ j, j < a.length → a.getD j 0 = b.getD j 0) : a = b := by
  refine List.ext_getElem hl fun j h1 h2 => ?_
  have := h j h1
  rwa [getD_lt _ _ _ h1, getD_lt _ _ _ h2] at this
theorem asgU_off (V : List Int) : ∀ (us o o' : List Int), (∀ u ∈ us, 0 ≤ u) → o.length = o'.length → (∀ j, j < o.length → (j : Int) ∉ us → o.getD j 0 = o'.getD j 0) → asgU V us o = asgU V us o'
  | [], o, o', _, hl, h => by
    rw [ext_getD o o' hl (fun j hj => h j hj (by simp))]
  | u :: us, o, o', h0, hl, h => by
    unfold asgU
    refine flat_congr _ _ _ fun v _ => ?_
    refine asgU_off V us _ _ (fun x hx => h0 x (by simp [hx])) (by simp [hl]) (fun j hj hn => ?_)
    rw [List.length_set] at hj
    rw [setI_getD _ _ _ _ hj, setI_getD _ _ _ _ (by omega)]
    split
    · rfl
    · rename_i hne
      refine h j hj ?_
      rw [List.mem_cons]
      rintro (e | e)
      · exact hne (by omega)
      · exact hn e
theorem asgU_mem (V : List Int) : ∀ (us o a : List Int), (∀ u ∈ us, 0 ≤ u ∧ u.toNat < o.length) → (a ∈ asgU V us o ↔ a.length = o.length ∧ ∀ j, j < o.length → if (j : Int) ∈ us then a.getD j 0 ∈ V else a.getD j 0 = o.getD j 0)
  | [], o, a, _ => by
    unfold asgU
    rw [List.mem_singleton]
    constructor
    · rintro rfl
      exact ⟨rfl, fun j hj => by rw [if_neg (by simp)]⟩
    · rintro ⟨h1, h2⟩
      exact ext_getD a o h1 (fun j hj => by have := h2 j (by omega); rwa [if_neg (by simp)] at this)
  | u :: us, o, a, h0 => by
    have hu := h0 u (by simp)
    unfold asgU
    rw [List.mem_flatMap]
    have ih := fun v => asgU_mem V us (o.set u.toNat v) a (fun x hx => by have := h0 x (by simp [hx]); simpa using this)
    constructor
    · rintro ⟨v, hv, ha⟩
      obtain ⟨h1, h2⟩ := (ih v).1 ha
      rw [List.length_set] at h1 h2
      refine ⟨h1, fun j hj => ?_⟩
      have h3 := h2 j hj
      by_cases hm : (j : Int) ∈ us
      · rw [if_pos hm] at h3
        rw [if_pos (by simp [hm])]; exact h3
      · rw [if_neg hm, setI_getD _ _ _ _ hj] at h3
        by_cases e : u.toNat = j
        · rw [if_pos e] at h3
          rw [if_pos (by rw [List.mem_cons]; left;omega), h3]; exact hv
        · rw [if_neg e] at h3
          rw [if_neg (by rw [List.mem_cons]; exact fun e2 => e2.elim (fun e2 => e (by omega)) hm)]; exact h3
    · rintro ⟨h1, h2⟩
      have h3 := h2 u.toNat hu.2
      rw [if_pos (by rw [List.mem_cons]; left;omega)] at h3
      refine ⟨_, h3, (ih _).2 ⟨by simpa using h1, fun j hj => ?_⟩⟩
      rw [List.length_set] at hj
      have h4 := h2 j hj
      by_cases hm : (j : Int) ∈ us
      · rw [if_pos hm]
        rwa [if_pos (by simp [hm])] at h4
      · rw [if_neg hm, setI_getD _ _ _ _ hj]
        by_cases e : u.toNat = j
        · rw [if_pos e, e]
        · rw [if_neg e]
          rwa [if_neg (by rw [List.mem_cons]; exact fun e2 => e2.elim (fun e2 => e (by omega)) hm)] at h4
def unkL (st : List Int) (k : Nat) : List Int := ((List.range k).filter (fun j => decide (st.getD j 0 < 0))).map (fun j : Nat => (j : Int))
theorem unkL_step (st : List Int) (k : Nat) : unkL st (k + 1) = unkL st k ++ if st.getD k 0 < 0 then [(k : Int)] else [] := by
  unfold unkL
  rw [List.range_succ, List.filter_append, List.map_append]
  congr 1
  by_cases h : st.getD k 0 < 0
  · rw [if_pos h, List.filter_cons_of_pos (by simpa using h)]; rfl
  · rw [if_neg h, List.filter_cons_of_neg (by simpa using h)]; rfl
theorem unkL_mem (st : List Int) (k j : Nat) : (j : Int) ∈ unkL st k ↔ j < k ∧ st.getD j 0 < 0 := by
  unfold unkL
  simp only [List.mem_map, List.mem_filter, List.mem_range, decide_eq_true_eq]
  constructor
  · rintro ⟨i, ⟨h1, h2⟩, e⟩
    obtain rfl : i = j := by omega
    exact ⟨h1, h2⟩
  · rintro ⟨h1, h2⟩
    exact ⟨j, ⟨h1, h2⟩, rfl⟩
theorem unkL_nat (st : List Int) (k : Nat) : ∀ u ∈ unkL st k, 0 ≤ u ∧ u.toNat < k := by
  intro u hu
  unfold unkL at hu
  simp only [List.mem_map, List.mem_filter, List.mem_range] at hu
  obtain ⟨i, ⟨h1, _⟩, rfl⟩ := hu
  omega
theorem unkL_len (st : List Int) (k : Nat) : (unkL st k).length ≤ k := by
  unfold unkL
  rw [List.length_map]
  exact Nat.le_trans (List.length_filter_le _ _) (by simp)
def knwL (st : List Int) : Nat → List Int
  | 0 => []
  | k + 1 => knwL st k ++ if st.getD k 0 < 0 ∨ hasI (knwL st k) (st.getD k 0) = true then [] else [st.getD k 0]
theorem knwL_mem (st : List Int) (x : Int) : ∀ k, x ∈ knwL st k ↔ 0 ≤ x ∧ ∃ j, j < k ∧ st.getD j 0 = x
  | 0 => by simp [knwL]
  | k + 1 => by
    have ih := knwL_mem st x k
    rw [knwL, List.mem_append, ih]
    constructor
    · rintro (⟨h0, j, h1, h2⟩ | h)
      · exact ⟨h0, j, by omega, h2⟩
      · split at h
        · simp at h
        · rename_i hn
          rw [List.mem_singleton] at h
          subst h
          exact ⟨by omega, k, by omega, rfl⟩
    · rintro ⟨h0, j, h1, h2⟩
      by_cases hj : j < k
      · exact .inl ⟨h0, j, hj, h2⟩
      · obtain rfl : j = k := by omega
        split
        · rename_i hc
          left
          rcases hc with hc | hc
          · omega
          · unfold hasI at hc
            rw [List.contains_iff_mem, h2, ih] at hc
            exact hc
        · right; rw [h2]; simp
theorem knwL_len (st : List Int) : ∀ k, (knwL st k).length ≤ k
  | 0 => by simp [knwL]
  | k + 1 => by
    have := knwL_len st k
    rw [knwL, List.length_append]
    split <;> simp <;> omega
def knw (st : List Int) : List Int := if knwL st st.length = [] then [0] else knwL st st.length
theorem knw_occ (st : List Int) (hr : ∀ x ∈ st, x < 16) (x : Int) : x ∈ knw st ↔ x ∈ occ st := by
  have key : x ∈ knwL st st.length ↔ x ∈ srtK st 16 := by
    rw [knwL_mem, srtK_mem]
    constructor
    · rintro ⟨h0, j, h1, rfl⟩
      exact ⟨getD_mem st j 0 h1, h0, by have := hr _ (getD_mem st j 0 h1);omega⟩
    · rintro ⟨h1, h2, _⟩
      obtain ⟨j, hj, e⟩ := List.getElem_of_mem h1
      exact ⟨h2, j, hj, by rw [getD_lt _ _ _ hj]; exact e⟩
  have hnil : knwL st st.length = [] ↔ srtK st 16 = [] := by
    rw [List.eq_nil_iff_forall_not_mem, List.eq_nil_iff_forall_not_mem]
    have keyA : ∀ y, y ∈ knwL st st.length ↔ y ∈ srtK st 16 := fun y => by
      rw [knwL_mem, srtK_mem]
      constructor
      · rintro ⟨h0, j, h1, rfl⟩
        exact ⟨getD_mem st j 0 h1, h0, by have := hr _ (getD_mem st j 0 h1);omega⟩
      · rintro ⟨h1, h2, _⟩
        obtain ⟨j, hj, e⟩ := List.getElem_of_mem h1
        exact ⟨h2, j, hj, by rw [getD_lt _ _ _ hj]; exact e⟩
    exact ⟨fun h y hy => h y ((keyA y).2 hy), fun h y hy => h y ((keyA y).1 hy)⟩
  unfold knw occ
  by_cases h : srtK st 16 = []
  · rw [if_pos (hnil.2 h), if_pos h]
  · rw [if_neg (fun e => h (hnil.1 e)), if_neg h]; exact key
def asgH (st : List Int) : List (List Int) := asgU (knw st) (unkL st st.length) st
theorem asgH_mem (st : List Int) (hr : ∀ x ∈ st, x < 16) (a : List Int) : a ∈ asgH st ↔ a ∈ asgs (occ st) st := by
  unfold asgH
  rw [asgU_mem _ _ _ _ (fun u hu => unkL_nat st _ u hu), asgs_mem]
  refine and_congr Iff.rfl (forall_congr' fun j => forall_congr' fun hj => ?_)
  by_cases h : st.getD j 0 < 0
  · rw [if_pos ((unkL_mem st _ j).2 ⟨hj, h⟩), if_pos h]
    exact knw_occ st hr _
  · rw [if_neg (fun h2 => h ((unkL_mem st _ j).1 h2).2), if_neg h]
def seenB (par : List (List Int)) (c : Int) (l : List (List Int)) (i x : Nat) : Bool := l.any fun a => decide ((costN par a : Int) = c) && (a.getD i 0 == (x : Int))
theorem seenB_snoc (par : List (List Int)) (c : Int) (l : List (List Int)) (a : List Int) (i x : Nat) : seenB par c (l ++ [a]) i x = (seenB par c l i x || (decide ((costN par a : Int) = c) && (a.getD i 0 == (x : Int)))) := by
  unfold seenB
  rw [List.any_append]
  simp
theorem seenB_congr (par : List (List Int)) (c : Int) (l m : List (List Int)) (h : ∀ a, a ∈ l ↔ a ∈ m) (i x : Nat) : seenB par c l i x = seenB par c m i x := by
  unfold seenB
  rw [Bool.eq_iff_iff, List.any_eq_true, List.any_eq_true]
  exact ⟨fun ⟨a, h1, h2⟩ => ⟨a, (h a).1 h1, h2⟩, fun ⟨a, h1, h2⟩ => ⟨a, (h a).2 h1, h2⟩⟩
def posL (s : Stem) (st : List Int) (i : Nat) : List Int := ((List.range 16).filter (seenB s.par (best1 s st).2 (asgs (occ st) st) i)).map (fun x : Nat => (x : Int))
end Go.Proofs.YtdigdmnnjbndlaaGreatDoor
