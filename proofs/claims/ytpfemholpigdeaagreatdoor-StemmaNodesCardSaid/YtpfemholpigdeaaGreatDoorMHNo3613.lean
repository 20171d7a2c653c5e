/-
  Part 13 of the proof: Exr, Lc38, Re39, Rp39, Un39. No statement of the seat is proved here.
-/
import Derived.Test.YtpfemholpigdeaaGreatDoorMHNo3612
namespace Go.Proofs.YtpfemholpigdeaaGreatDoor
open Go.RowKit
theorem ExtR.err {s : Stem} {c p e : Int} {w0 : World} {u : Value} (he : extE s c p = e) (h0 : e ≠ 0) (hu : u = .tuple #[.agg #[.slice none 0 0, .slice none 0 0, .slice none 0 0], .int .i64 e]) : ExtR s c p w0 u [] :=
  .inl ⟨by rw [he]; exact h0, by rw [he]; exact hu, rfl⟩
theorem take_set_self {α : Type} (vs : List α) (k : Nat) (own : α) (h : k < vs.length) : (vs.set k own).take (k + 1) = vs.take k ++ [own] := by
  rw [List.take_succ_eq_append_getElem (by simpa using h), List.getElem_set_self, List.take_set_of_le (Nat.le_refl _)]
theorem take_set_other {α : Type} (vs : List α) (c k : Nat) (own d : α) (h : k < vs.length) (hc : c < k) : (vs.set c own).take (k + 1) = (vs.set c own).take k ++ [vs.getD k d] := by
  rw [List.take_succ_eq_append_getElem (by simpa using h), List.getElem_set_ne (by omega), getD_lt _ _ _ h]
theorem take_getD {α : Type} (vs : List α) (k : Nat) (d : α) (h : k < vs.length) : vs.take (k + 1) = vs.take k ++ [vs.getD k d] := by
  rw [List.take_succ_eq_append_getElem h, getD_lt _ _ _ h]
set_option maxRecDepth 100000 in
set_option maxHeartbeats 4000000 in
theorem rExtend_sat (v : Value) (s : Stem) (c p : Int) (wb w : World) (hb : Below wb.heap.size wb w) (h : Stm wb v s) : Sat Tryz.prog 21 [v, .int .i64 c, .int .i64 p] w (ExtR s c p wb) := by
  have hst := h.below hb
  obtain ⟨nv, ev, pv, rfl, hS, hE, hP⟩ := h
  have hnv := (hS.below hb).sl
  obtain ⟨na, nc, rfl, _⟩ := hS.at
  obtain ⟨ea, ec, rfl, _⟩ := hE.at
  obtain ⟨pa, pc, rfl, _⟩ := hP.at
  obtain ⟨vs, hsl0, hvl, hint⟩ := hP
  have hsl := hsl0.below hb
  have hrow : ∀ i, i < s.par.length → Ints w (vs.getD i undef) (s.par.getD i []) := fun i hi => by
    rw [getD_lt _ _ _ hi]; exact (hint i hi).below hb
  have hone : ∀ i, i < s.par.length → (vs.getD i undef).oneCell' = true ∧ (vs.getD i undef).cells = #[vs.getD i undef] := fun i hi => one_of_ints (hrow i hi)
  have hnb := hnv.bound
  have hA : stCheck s = 0 → s.par.length = s.names.length ∧ s.par.length ≤ 64 := fun h0 => by
    obtain ⟨_, h3, _, h4, _⟩ := stCheck_len s h0
    exact ⟨h4, by omega⟩
  refine SatL.ofR 87 [.cell 6 26, .tmp 7] Tryz.func21 (by kernel_rfl) (by kernel_rfl) rfl rfl rfl ?_
  repeat' (first|(apply OK_seq)|(apply thenQ_n)|(apply OK_region)|(apply OKx_gc 31;exact rfl; refine OKx_callV (f := 31) rfl rfl rfl (fun w1 hp => rstCheck_sat _ s w1 (hst.below hp.below)) ?_)|(apply OKx_gc 43;exact rfl; refine OKx_callB (f := 43) (b := hasI (s.par.getD c.toNat []) p) rfl rfl rfl (fun w1 hp => has36_sat _ _ _ w1 ((hrow c.toNat (by omega)).below hp.below)) ?_ ?_ <;> intro hq)|(refine OKx_buildG [(0, .slice na s.names.length nc), (1, .slice ea s.ext.length ec)] #[.slice na s.names.length nc, .slice ea s.ext.length ec, .slice none 0 0] rfl rfl ?_)|(refine OK_rid 14 ?_; refine OK_mix [0, 1, 4, 5, 6, 7, 8] [2] [] [3, 9, 10, 11, 12, 13, 14] [] (id := 14) (by kernel_rfl) (by kernel_rfl) rfl (Ent.nil) (by ((try simp only [pickO, nthO, List.cons_append, List.nil_append]) <;> exact rfl)) (by ((try simp only [pickO, nthO, List.cons_append, List.nil_append]) <;> exact rfl)) (by ((try simp only [pickO]) <;> exact rfl)) (by ((try simp only [pickO, nthO, List.cons_append, List.nil_append]) <;> exact rfl)) ?_)|(refine OK_rid 15 ?_; refine OK_mix [0, 1] [2, 3, 4, 5, 6] [] [7, 8, 9, 10] [] (id := 15) (by kernel_rfl) (by kernel_rfl) rfl (Ent.nil) (by ((try simp only [pickO, nthO, List.cons_append, List.nil_append]) <;> exact rfl)) (by ((try simp only [pickO, nthO, List.cons_append, List.nil_append]) <;> exact rfl)) (by ((try simp only [pickO]) <;> exact rfl)) (by ((try simp only [pickO, nthO, List.cons_append, List.nil_append]) <;> exact rfl)) ?_)|(apply OKx_nilK)|(apply OK_block)|(apply blockQ_n)|(apply blockQ_s)|(apply thenQ_e)|(apply blockQ_e;exact rfl)|(apply thenQ_r)|(apply blockQ_r)|(apply OK_condT;exact rfl)|(apply OK_condF;exact rfl)|(apply OK_skip)|(apply OK_exit)|(apply OK_ret)|(apply OKx_move;(conv=>lhs;whnf)<;>exact rfl)|(apply OKx_assign;(conv=>lhs;whnf)<;>exact rfl)|(apply OKx_ldB;exact rfl;(first | exact at0|exact at1|exact at2|exact at3|exact at4|exact at5|exact at6|exact at7);exact rfl)|(apply OKx_ldR;(conv=>lhs;whnf)<;>exact rfl;(with_reducible assumption))|(apply OKx_len;exact rfl)|(apply OKx_lenR;(conv=>lhs;whnf)<;>exact rfl;(with_reducible assumption))|(apply OKx_lenR2;(conv=>lhs;whnf)<;>exact rfl;(with_reducible assumption))|(apply OKx_lenO;(conv=>lhs;whnf)<;>exact rfl;(first | exact at0|exact at1|exact at2|exact at3|exact at4|exact at5|exact at6|exact at7))|(apply OKx_lss;exact rfl;exact rfl;all_goals (intro _; try (exfalso;omega)))|(apply OKx_geq;exact rfl;exact rfl;all_goals (intro _; try (exfalso;omega)))|(apply OKx_eql;exact rfl;exact rfl;all_goals (intro _; try (exfalso;omega)))|(apply OKx_neq;exact rfl;exact rfl;all_goals (intro _; try (exfalso;omega)))|(apply OKx_idxO;exact rfl;exact rfl;omega)|(apply OKx_idxR;(conv=>lhs;whnf)<;>exact rfl;(with_reducible assumption);exact rfl;omega;intro _ _)|(apply OKx_idxOz;exact rfl;exact rfl;omega;omega)|(apply OKx_idxRz;(conv=>lhs;whnf)<;>exact rfl;(with_reducible assumption);exact rfl;omega;omega;intro _ _)|(apply OKx_fldO;exact rfl;exact rfl)|(apply OKx_fldR;(conv=>lhs;whnf)<;>exact rfl;(with_reducible assumption); decide;intro _ _)|(apply OKx_inc;exact rfl;exact rfl;omega)|(apply OKx_addN;exact rfl;exact rfl;omega)|(apply OKx_add;exact rfl;exact rfl;omega;omega)|(apply OKx_pickT;exact rfl;(conv=>lhs;whnf)<;>exact rfl)|(apply OKx_pickF;exact rfl;(conv=>lhs;whnf)<;>exact rfl)|(apply OKx_guardT;exact rfl;exact rfl)|(apply OKx_guardF;exact rfl;exact rfl)|(apply OKx_guardU;exact rfl;exact rfl)|(apply OKx_boxA;exact rfl;intro _)|(apply OKx_allocA;intro _)|(apply OKx_ldBA;exact rfl;(first | exact at0|exact at1|exact at2|exact at3|exact at4|exact at5|exact at6|exact at7);exact rfl)|(apply OKx_ldRA;(conv=>lhs;whnf)<;>exact rfl;(with_reducible assumption))|(apply OKx_stB;exact rfl;(conv=>lhs;whnf)<;>exact rfl;exact rfl;exact rfl;(first | exact at0|exact at1|exact at2|exact at3|exact at4|exact at5|exact at6|exact at7);exact rfl;exact rfl;exact rfl)|(apply OKx_slit1;(conv=>lhs;whnf)<;>exact rfl;exact rfl;intro _)|(apply OKx_build2;(conv=>lhs;whnf)<;>exact rfl;(conv=>lhs;whnf)<;>exact rfl;exact rfl;exact rfl)|(apply OKx_stBA; kernel_rfl;exact rfl;exact rfl;exact rfl;(first | exact at0|exact at1|exact at2|exact at3|exact at4|exact at5|exact at6|exact at7);exact rfl;exact rfl;exact rfl)|(apply OKx_build0))
  rotate_right
  · rename_i g3 g6 _ _ _ _ _ _ _ _ g8
    have hst0 : stCheck s = 0 := by assumption
    obtain ⟨hpl, hp64⟩ := hA hst0
    have hc0 : 0 ≤ c := by omega
    have hpc : p < c := by omega
    have hp0 : 0 ≤ p := by omega
    obtain ⟨ci, rfl⟩ := Int.eq_ofNat_of_zero_le hc0
    have hci : ci < s.par.length := by omega
    have he : extE s ci p = 0 := by unfold extE; rw [if_neg (by rw [hst0]; simp), if_neg (by omega), if_neg (by omega), if_neg (by rw [hq]; simp)]
    have hcl : ∀ i, (s.par.getD i []).length ≤ 64 := fun i => by
      by_cases hi : i < s.par.length
      · have hok := stCheck_okPar s hst0 i hi
        have hinc := stCheck_inc s hst0 i hi
        exact asc_len (s.par.getD i []) hinc 64 (fun x hx => by
          have := hok x (by rwa [getD_lt _ _ _ hi] at hx)
          omega)
      · rw [getD_ge _ _ _ (by omega)]; simp
    have hxl : (extP s ci p).length ≤ 64 := srtK_len _ _
    refine OK_loop1 9 [9, 52, 53, 54, 55, 56, 57, 58, 59, 60, 61, 62, 63, 64, 65, 66, 67, 68, 69, 70, 71, 72, 73, 74, 75, 76, 77, 78, 79, 80, 81, 82, 83, 84, 85] (fun m v L => ∃ (k : Nat) (oa : Option Addr) (oc : Nat), k + m = s.par.length ∧ v = .int .i64 (k : Int) ∧
      ((k ≤ ci ∧ L = [.row 32 1 (.slice oa k oc) k (vs.take k), .box 26 g8 [.slice na s.names.length nc, .slice ea s.ext.length ec, .slice oa k oc], .box 26 g6 [.slice none 0 0, .slice none 0 0, .slice none 0 0], .box 26 g3 [.slice na s.names.length nc, .slice ea s.ext.length ec, .slice pa s.par.length pc]]) ∨
       (ci < k ∧ ∃ own, L = [.row 32 1 (.slice oa k oc) k ((vs.set ci own).take k), irow own (extP s ci p), .box 26 g8 [.slice na s.names.length nc, .slice ea s.ext.length ec, .slice oa k oc], .box 26 g6 [.slice none 0 0, .slice none 0 0, .slice none 0 0], .box 26 g3 [.slice na s.names.length nc, .slice ea s.ext.length ec, .slice pa s.par.length pc]]))) s.par.length _
      (Ent.mk fun w1 hp => hp.nil 32 1) ⟨0, none, 0, by omega, rfl, .inl ⟨by omega, rfl⟩⟩ ?_
    rintro m v L G ⟨k, oa, oc, hm, rfl, ⟨hk, rfl⟩ | ⟨hk, own, rfl⟩⟩
    · by_cases hkc : k = ci
      · subst hkc
        have hrk := hrow k hci
        have hlk := hcl k
        repeat' (first|(apply OK_seq)|(apply thenQ_n)|(apply OK_region)|(apply OKx_gb; refine OKx_appSl 0 (xs := [.int .i64 p]) rfl rfl rfl hrk.sl (fun j hj => rfl) (by omega) (by omega) ?_; intro v2; rw [Sl.one_ints hrk, List.set_cons_zero])|(apply OKx_gc 46;exact rfl; refine OKx_call (f := 46) rfl rfl (fun w1 hp => (sorted_sat v2 (p :: s.par.getD k []) w1 (hp.ints (n := 1 + (s.par.getD k []).length) 0 rfl (by omega))).row) ?_; rintro own _ ⟨rfl, hsh⟩; obtain ⟨⟨ya, yc, rfl⟩, _⟩ := hsh _ _ _ _ _ List.mem_cons_self; rw [List.cons_append, List.nil_append])|(apply OKx_gb; refine OKx_append1 3 0 rfl rfl rfl rfl rfl (by omega) (by omega) ?_; intro g2 c2)|(refine OK_rid 14 ?_; refine OK_mix2 [0, 1, 4, 5, 6, 7, 8] [2] [] [3, 9, 10, 11] [12, 13, 14] [.box 26 g8 [.slice na s.names.length nc, .slice ea s.ext.length ec, .slice oa k oc], .box 26 g3 [.slice na s.names.length nc, .slice ea s.ext.length ec, .slice pa s.par.length pc]] (id := 14) (by kernel_rfl) (by kernel_rfl) rfl (by first | exact Ent.pick [1,3] rfl) (by ((try simp only [pickO, nthO, List.cons_append, List.nil_append]) <;> exact rfl)) (by ((try simp only [pickO, nthO, List.cons_append, List.nil_append]) <;> exact rfl)) (by ((try simp only [pickO]) <;> exact rfl)) (by ((try simp only [pickO, nthO, List.cons_append, List.nil_append]) <;> exact rfl)) (by ((try simp only [pickO, nthO, List.cons_append, List.nil_append]) <;> exact rfl)) ?_)|(refine OK_rid 15 ?_; refine OK_mix [0, 1] [2, 3, 4, 5, 6] [] [7, 8, 9, 10] [] (id := 15) (by kernel_rfl) (by kernel_rfl) rfl (Ent.nil) (by ((try simp only [pickO, nthO, List.cons_append, List.nil_append]) <;> exact rfl)) (by ((try simp only [pickO, nthO, List.cons_append, List.nil_append]) <;> exact rfl)) (by ((try simp only [pickO]) <;> exact rfl)) (by ((try simp only [pickO, nthO, List.cons_append, List.nil_append]) <;> exact rfl)) ?_)|(apply OKx_nilK)|(apply OK_block)|(apply blockQ_n)|(apply blockQ_s)|(apply thenQ_e)|(apply blockQ_e;exact rfl)|(apply thenQ_r)|(apply blockQ_r)|(apply OK_condT;exact rfl)|(apply OK_condF;exact rfl)|(apply OK_skip)|(apply OK_exit)|(apply OK_ret)|(apply OKx_move;(conv=>lhs;whnf)<;>exact rfl)|(apply OKx_assign;(conv=>lhs;whnf)<;>exact rfl)|(apply OKx_ldB;exact rfl;(first | exact at0|exact at1|exact at2|exact at3|exact at4|exact at5|exact at6|exact at7);exact rfl)|(apply OKx_ldR;(conv=>lhs;whnf)<;>exact rfl;(with_reducible assumption))|(apply OKx_len;exact rfl)|(apply OKx_lenR;(conv=>lhs;whnf)<;>exact rfl;(with_reducible assumption))|(apply OKx_lenR2;(conv=>lhs;whnf)<;>exact rfl;(with_reducible assumption))|(apply OKx_lenO;(conv=>lhs;whnf)<;>exact rfl;(first | exact at0|exact at1|exact at2|exact at3|exact at4|exact at5|exact at6|exact at7))|(apply OKx_lss;exact rfl;exact rfl;all_goals (intro _; try (exfalso;omega)))|(apply OKx_geq;exact rfl;exact rfl;all_goals (intro _; try (exfalso;omega)))|(apply OKx_eql;exact rfl;exact rfl;all_goals (intro _; try (exfalso;omega)))|(apply OKx_neq;exact rfl;exact rfl;all_goals (intro _; try (exfalso;omega)))|(apply OKx_idxO;exact rfl;exact rfl;omega)|(apply OKx_idxR;(conv=>lhs;whnf)<;>exact rfl;(with_reducible assumption);exact rfl;omega;intro _ _)|(apply OKx_idxOz;exact rfl;exact rfl;omega;omega)|(apply OKx_idxRz;(conv=>lhs;whnf)<;>exact rfl;(with_reducible assumption);exact rfl;omega;omega;intro _ _)|(apply OKx_fldO;exact rfl;exact rfl)|(apply OKx_fldR;(conv=>lhs;whnf)<;>exact rfl;(with_reducible assumption); decide;intro _ _)|(apply OKx_inc;exact rfl;exact rfl;omega)|(apply OKx_addN;exact rfl;exact rfl;omega)|(apply OKx_add;exact rfl;exact rfl;omega;omega)|(apply OKx_pickT;exact rfl;(conv=>lhs;whnf)<;>exact rfl)|(apply OKx_pickF;exact rfl;(conv=>lhs;whnf)<;>exact rfl)|(apply OKx_guardT;exact rfl;exact rfl)|(apply OKx_guardF;exact rfl;exact rfl)|(apply OKx_guardU;exact rfl;exact rfl)|(apply OKx_boxA;exact rfl;intro _)|(apply OKx_allocA;intro _)|(apply OKx_ldBA;exact rfl;(first | exact at0|exact at1|exact at2|exact at3|exact at4|exact at5|exact at6|exact at7);exact rfl)|(apply OKx_ldRA;(conv=>lhs;whnf)<;>exact rfl;(with_reducible assumption))|(apply OKx_stB;exact rfl;(conv=>lhs;whnf)<;>exact rfl;exact rfl;exact rfl;(first | exact at0|exact at1|exact at2|exact at3|exact at4|exact at5|exact at6|exact at7);exact rfl;exact rfl;exact rfl)|(apply OKx_slit1;(conv=>lhs;whnf)<;>exact rfl;exact rfl;intro _)|(apply OKx_build2;(conv=>lhs;whnf)<;>exact rfl;(conv=>lhs;whnf)<;>exact rfl;exact rfl;exact rfl)|(apply OKx_stBA; kernel_rfl;exact rfl;exact rfl;exact rfl;(first | exact at0|exact at1|exact at2|exact at3|exact at4|exact at5|exact at6|exact at7);exact rfl;exact rfl;exact rfl))
        have hset := take_set_self vs k (.slice ya (extP s k p).length yc) (by omega)
        refine ⟨by (repeat' (first | refine agree_upd rfl ?_ | exact agree_over | exact agree_refl _ _ | refine agree_over2 rfl ?_)), m - 1, _, by omega, Ent.pick [3, 1, 4, 5, 6] rfl, ?_⟩
        exact ⟨k + 1, some ⟨g2, 0, none⟩, c2, by omega, rfl, .inr ⟨by omega, .slice ya (extP s k p).length yc, by rw [hset]; rfl⟩⟩
      · have hrk := hrow k (by omega)
        have hok := hone k (by omega)
        repeat' (first|(apply OK_seq)|(apply thenQ_n)|(apply OK_region)|(apply OKx_gt; refine OKx_slit1 rfl hok.2 ?_; intro gs)|(apply OKx_gb; refine OKx_append1 1 0 rfl rfl rfl rfl hok.1 (by omega) (by omega) ?_; intro g2 c2)|(refine OK_rid 14 ?_; refine OK_mix [0, 1, 4, 5, 6, 7, 8] [2] [] [3, 9, 10, 11, 12, 13, 14] [] (id := 14) (by kernel_rfl) (by kernel_rfl) rfl (Ent.nil) (by ((try simp only [pickO, nthO, List.cons_append, List.nil_append]) <;> exact rfl)) (by ((try simp only [pickO, nthO, List.cons_append, List.nil_append]) <;> exact rfl)) (by ((try simp only [pickO]) <;> exact rfl)) (by ((try simp only [pickO, nthO, List.cons_append, List.nil_append]) <;> exact rfl)) ?_)|(refine OK_rid 15 ?_; refine OK_mix2 [0, 1] [2, 3, 4, 5, 6] [] [7] [8, 9, 10] [.box 26 g8 [.slice na s.names.length nc, .slice ea s.ext.length ec, .slice oa k oc], .box 26 g3 [.slice na s.names.length nc, .slice ea s.ext.length ec, .slice pa s.par.length pc]] (id := 15) (by kernel_rfl) (by kernel_rfl) rfl (by first | exact Ent.pick [1,3] rfl) (by ((try simp only [pickO, nthO, List.cons_append, List.nil_append]) <;> exact rfl)) (by ((try simp only [pickO, nthO, List.cons_append, List.nil_append]) <;> exact rfl)) (by ((try simp only [pickO]) <;> exact rfl)) (by ((try simp only [pickO, nthO, List.cons_append, List.nil_append]) <;> exact rfl)) (by ((try simp only [pickO, nthO, List.cons_append, List.nil_append]) <;> exact rfl)) ?_)|(apply OKx_nilK)|(apply OK_block)|(apply blockQ_n)|(apply blockQ_s)|(apply thenQ_e)|(apply blockQ_e;exact rfl)|(apply thenQ_r)|(apply blockQ_r)|(apply OK_condT;exact rfl)|(apply OK_condF;exact rfl)|(apply OK_skip)|(apply OK_exit)|(apply OK_ret)|(apply OKx_move;(conv=>lhs;whnf)<;>exact rfl)|(apply OKx_assign;(conv=>lhs;whnf)<;>exact rfl)|(apply OKx_ldB;exact rfl;(first | exact at0|exact at1|exact at2|exact at3|exact at4|exact at5|exact at6|exact at7);exact rfl)|(apply OKx_ldR;(conv=>lhs;whnf)<;>exact rfl;(with_reducible assumption))|(apply OKx_len;exact rfl)|(apply OKx_lenR;(conv=>lhs;whnf)<;>exact rfl;(with_reducible assumption))|(apply OKx_lenR2;(conv=>lhs;whnf)<;>exact rfl;(with_reducible assumption))|(apply OKx_lenO;(conv=>lhs;whnf)<;>exact rfl;(first | exact at0|exact at1|exact at2|exact at3|exact at4|exact at5|exact at6|exact at7))|(apply OKx_lss;exact rfl;exact rfl;all_goals (intro _; try (exfalso;omega)))|(apply OKx_geq;exact rfl;exact rfl;all_goals (intro _; try (exfalso;omega)))|(apply OKx_eql;exact rfl;exact rfl;all_goals (intro _; try (exfalso;omega)))|(apply OKx_neq;exact rfl;exact rfl;all_goals (intro _; try (exfalso;omega)))|(apply OKx_idxO;exact rfl;exact rfl;omega)|(apply OKx_idxR;(conv=>lhs;whnf)<;>exact rfl;(with_reducible assumption);exact rfl;omega;intro _ _)|(apply OKx_idxOz;exact rfl;exact rfl;omega;omega)|(apply OKx_idxRz;(conv=>lhs;whnf)<;>exact rfl;(with_reducible assumption);exact rfl;omega;omega;intro _ _)|(apply OKx_fldO;exact rfl;exact rfl)|(apply OKx_fldR;(conv=>lhs;whnf)<;>exact rfl;(with_reducible assumption); decide;intro _ _)|(apply OKx_inc;exact rfl;exact rfl;omega)|(apply OKx_addN;exact rfl;exact rfl;omega)|(apply OKx_add;exact rfl;exact rfl;omega;omega)|(apply OKx_pickT;exact rfl;(conv=>lhs;whnf)<;>exact rfl)|(apply OKx_pickF;exact rfl;(conv=>lhs;whnf)<;>exact rfl)|(apply OKx_guardT;exact rfl;exact rfl)|(apply OKx_guardF;exact rfl;exact rfl)|(apply OKx_guardU;exact rfl;exact rfl)|(apply OKx_boxA;exact rfl;intro _)|(apply OKx_allocA;intro _)|(apply OKx_ldBA;exact rfl;(first | exact at0|exact at1|exact at2|exact at3|exact at4|exact at5|exact at6|exact at7);exact rfl)|(apply OKx_ldRA;(conv=>lhs;whnf)<;>exact rfl;(with_reducible assumption))|(apply OKx_stB;exact rfl;(conv=>lhs;whnf)<;>exact rfl;exact rfl;exact rfl;(first | exact at0|exact at1|exact at2|exact at3|exact at4|exact at5|exact at6|exact at7);exact rfl;exact rfl;exact rfl)|(apply OKx_slit1;(conv=>lhs;whnf)<;>exact rfl;exact rfl;intro _)|(apply OKx_build2;(conv=>lhs;whnf)<;>exact rfl;(conv=>lhs;whnf)<;>exact rfl;exact rfl;exact rfl)|(apply OKx_stBA; kernel_rfl;exact rfl;exact rfl;exact rfl;(first | exact at0|exact at1|exact at2|exact at3|exact at4|exact at5|exact at6|exact at7);exact rfl;exact rfl;exact rfl))
        have hset := take_getD vs k undef (by omega)
        refine ⟨by (repeat' (first | refine agree_upd rfl ?_ | exact agree_over | exact agree_refl _ _ | refine agree_over2 rfl ?_)), m - 1, _, by omega, Ent.pick [1, 2, 3, 4] rfl, ?_⟩
        exact ⟨k + 1, some ⟨g2, 0, none⟩, c2, by omega, rfl, .inl ⟨by omega, by rw [hset]; rfl⟩⟩
    · have hrk := fun h => hrow k h
      have hok := fun h => hone k h
      repeat' (first|(apply OK_seq)|(apply thenQ_n)|(apply OK_region)|(apply OKx_gt; refine OKx_slit1 rfl (hok (by omega)).2 ?_; intro gs)|(apply OKx_gb; refine OKx_append1 1 0 rfl rfl rfl rfl (hok (by omega)).1 (by omega) (by omega) ?_; intro g2 c2)|(refine OK_rid 14 ?_; refine OK_mix [0, 1, 4, 5, 6, 7, 8] [2] [] [3, 9, 10, 11, 12, 13, 14] [] (id := 14) (by kernel_rfl) (by kernel_rfl) rfl (Ent.nil) (by ((try simp only [pickO, nthO, List.cons_append, List.nil_append]) <;> exact rfl)) (by ((try simp only [pickO, nthO, List.cons_append, List.nil_append]) <;> exact rfl)) (by ((try simp only [pickO]) <;> exact rfl)) (by ((try simp only [pickO, nthO, List.cons_append, List.nil_append]) <;> exact rfl)) ?_)|(refine OK_rid 15 ?_; refine OK_mix2 [0, 1] [2, 3, 4, 5, 6] [] [7] [8, 9, 10] [.box 26 g8 [.slice na s.names.length nc, .slice ea s.ext.length ec, .slice oa k oc], .box 26 g3 [.slice na s.names.length nc, .slice ea s.ext.length ec, .slice pa s.par.length pc]] (id := 15) (by kernel_rfl) (by kernel_rfl) rfl (by first | exact Ent.pick [2,4] rfl) (by ((try simp only [pickO, nthO, List.cons_append, List.nil_append]) <;> exact rfl)) (by ((try simp only [pickO, nthO, List.cons_append, List.nil_append]) <;> exact rfl)) (by ((try simp only [pickO]) <;> exact rfl)) (by ((try simp only [pickO, nthO, List.cons_append, List.nil_append]) <;> exact rfl)) (by ((try simp only [pickO, nthO, List.cons_append, List.nil_append]) <;> exact rfl)) ?_)|(apply OKx_nilK)|(apply OK_block)|(apply blockQ_n)|(apply blockQ_s)|(apply thenQ_e)|(apply blockQ_e;exact rfl)|(apply thenQ_r)|(apply blockQ_r)|(apply OK_condT;exact rfl)|(apply OK_condF;exact rfl)|(apply OK_skip)|(apply OK_exit)|(apply OK_ret)|(apply OKx_move;(conv=>lhs;whnf)<;>exact rfl)|(apply OKx_assign;(conv=>lhs;whnf)<;>exact rfl)|(apply OKx_ldB;exact rfl;(first | exact at0|exact at1|exact at2|exact at3|exact at4|exact at5|exact at6|exact at7);exact rfl)|(apply OKx_ldR;(conv=>lhs;whnf)<;>exact rfl;(with_reducible assumption))|(apply OKx_len;exact rfl)|(apply OKx_lenR;(conv=>lhs;whnf)<;>exact rfl;(with_reducible assumption))|(apply OKx_lenR2;(conv=>lhs;whnf)<;>exact rfl;(with_reducible assumption))|(apply OKx_lenO;(conv=>lhs;whnf)<;>exact rfl;(first | exact at0|exact at1|exact at2|exact at3|exact at4|exact at5|exact at6|exact at7))|(apply OKx_lss;exact rfl;exact rfl;all_goals (intro _; try (exfalso;omega)))|(apply OKx_geq;exact rfl;exact rfl;all_goals (intro _; try (exfalso;omega)))|(apply OKx_eql;exact rfl;exact rfl;all_goals (intro _; try (exfalso;omega)))|(apply OKx_neq;exact rfl;exact rfl;all_goals (intro _; try (exfalso;omega)))|(apply OKx_idxO;exact rfl;exact rfl;omega)|(apply OKx_idxR;(conv=>lhs;whnf)<;>exact rfl;(with_reducible assumption);exact rfl;omega;intro _ _)|(apply OKx_idxOz;exact rfl;exact rfl;omega;omega)|(apply OKx_idxRz;(conv=>lhs;whnf)<;>exact rfl;(with_reducible assumption);exact rfl;omega;omega;intro _ _)|(apply OKx_fldO;exact rfl;exact rfl)|(apply OKx_fldR;(conv=>lhs;whnf)<;>exact rfl;(with_reducible assumption); decide;intro _ _)|(apply OKx_inc;exact rfl;exact rfl;omega)|(apply OKx_addN;exact rfl;exact rfl;omega)|(apply OKx_add;exact rfl;exact rfl;omega;omega)|(apply OKx_pickT;exact rfl;(conv=>lhs;whnf)<;>exact rfl)|(apply OKx_pickF;exact rfl;(conv=>lhs;whnf)<;>exact rfl)|(apply OKx_guardT;exact rfl;exact rfl)|(apply OKx_guardF;exact rfl;exact rfl)|(apply OKx_guardU;exact rfl;exact rfl)|(apply OKx_boxA;exact rfl;intro _)|(apply OKx_allocA;intro _)|(apply OKx_ldBA;exact rfl;(first | exact at0|exact at1|exact at2|exact at3|exact at4|exact at5|exact at6|exact at7);exact rfl)|(apply OKx_ldRA;(conv=>lhs;whnf)<;>exact rfl;(with_reducible assumption))|(apply OKx_stB;exact rfl;(conv=>lhs;whnf)<;>exact rfl;exact rfl;exact rfl;(first | exact at0|exact at1|exact at2|exact at3|exact at4|exact at5|exact at6|exact at7);exact rfl;exact rfl;exact rfl)|(apply OKx_slit1;(conv=>lhs;whnf)<;>exact rfl;exact rfl;intro _)|(apply OKx_build2;(conv=>lhs;whnf)<;>exact rfl;(conv=>lhs;whnf)<;>exact rfl;exact rfl;exact rfl)|(apply OKx_stBA; kernel_rfl;exact rfl;exact rfl;exact rfl;(first | exact at0|exact at1|exact at2|exact at3|exact at4|exact at5|exact at6|exact at7);exact rfl;exact rfl;exact rfl))
      · have hset := take_set_other vs ci k own undef (by omega) hk
        refine ⟨by (repeat' (first | refine agree_upd rfl ?_ | exact agree_over | exact agree_refl _ _ | refine agree_over2 rfl ?_)), m - 1, _, by omega, Ent.pick [1, 2, 3, 4, 5] rfl, ?_⟩
        exact ⟨k + 1, some ⟨g2, 0, none⟩, c2, by omega, rfl, .inr ⟨by omega, own, by rw [hset]; rfl⟩⟩
      · obtain rfl : k = s.par.length := by omega
        have hset : (vs.set ci own).take s.par.length = vs.set ci own := List.take_of_length_le (by simp;omega)
        rw [hset]
        refine bodyR_r2 (by first | exact resIs_tmp (by ((conv=>lhs;whnf)<;>exact rfl)) | exact resIs_cellA 0 rfl rfl rfl | exact resIs_cellA 1 rfl rfl rfl | exact resIs_cellA 2 rfl rfl rfl | exact resIs_cellA 3 rfl rfl rfl | exact resIs_cellA 4 rfl rfl rfl | exact resIs_cellA 5 rfl rfl rfl | exact resIs_cellA 6 rfl rfl rfl | exact resIs_cellA 7 rfl rfl rfl | exact resIs_cellA 8 rfl rfl rfl | exact resIs_cellA 9 rfl rfl rfl) (by first | exact resIs_tmp (by ((conv=>lhs;whnf)<;>exact rfl)) | exact resIs_cellA 0 rfl rfl rfl | exact resIs_cellA 1 rfl rfl rfl | exact resIs_cellA 2 rfl rfl rfl | exact resIs_cellA 3 rfl rfl rfl | exact resIs_cellA 4 rfl rfl rfl | exact resIs_cellA 5 rfl rfl rfl | exact resIs_cellA 6 rfl rfl rfl | exact resIs_cellA 7 rfl rfl rfl | exact resIs_cellA 8 rfl rfl rfl | exact resIs_cellA 9 rfl rfl rfl) ?_
        exact ⟨_, Ent.refl _ _, .inr ⟨he, _, _, _, _, _, _, rfl, fun w1 hp => ⟨_, _, _, rfl, hS.below hp.below, hE.below hp.below, tabs_set ci 0 1 hp hvl (by omega) rfl rfl (by omega) hint hci⟩⟩⟩
  all_goals
    refine bodyR_r2 (by first | exact resIs_tmp (by ((conv=>lhs;whnf)<;>exact rfl)) | exact resIs_cellA 0 rfl rfl rfl | exact resIs_cellA 1 rfl rfl rfl | exact resIs_cellA 2 rfl rfl rfl | exact resIs_cellA 3 rfl rfl rfl | exact resIs_cellA 4 rfl rfl rfl | exact resIs_cellA 5 rfl rfl rfl | exact resIs_cellA 6 rfl rfl rfl | exact resIs_cellA 7 rfl rfl rfl | exact resIs_cellA 8 rfl rfl rfl | exact resIs_cellA 9 rfl rfl rfl) (by first | exact resIs_tmp (by ((conv=>lhs;whnf)<;>exact rfl)) | exact resIs_cellA 0 rfl rfl rfl | exact resIs_cellA 1 rfl rfl rfl | exact resIs_cellA 2 rfl rfl rfl | exact resIs_cellA 3 rfl rfl rfl | exact resIs_cellA 4 rfl rfl rfl | exact resIs_cellA 5 rfl rfl rfl | exact resIs_cellA 6 rfl rfl rfl | exact resIs_cellA 7 rfl rfl rfl | exact resIs_cellA 8 rfl rfl rfl | exact resIs_cellA 9 rfl rfl rfl) ?_
    refine ⟨_, Ent.nil, ExtR.err ?_ ?_ rfl⟩
    · unfold extE
      repeat' split
      all_goals first | rfl | omega | simp_all
    · decide
end Go.Proofs.YtpfemholpigdeaaGreatDoor
namespace Go.Proofs.YtpfemholpigdeaaGreatDoor
open Go.RowKit
theorem Pt.below {w w' : World} {p : Value} {sz : Nat} {f : Nat → Value} (h : Pt w p sz f) (hb : Below w.heap.size w w') : Pt w' p sz f := by
  obtain ⟨b, o, rfl, hc⟩ := h
  exact ⟨b, o, rfl, fun j hj => (hb.cell (World.block_lt_of_cell? w _ (hc j hj))).trans (hc j hj)⟩
end Go.Proofs.YtpfemholpigdeaaGreatDoor
namespace Go.Proofs.YtpfemholpigdeaaGreatDoor
open Go.RowKit
def expL (own : List Int) (i : Nat) : List Int → List Int
  | [] => []
  | x :: xs => (if x = (i : Int) then own else [x]) ++ expL own i xs
theorem expL_snoc (own : List Int) (i : Nat) (x : Int) : ∀ xs, expL own i (xs ++ [x]) = expL own i xs ++ if x = (i : Int) then own else [x]
  | [] => by simp [expL]
  | y :: ys => by rw [List.cons_append, expL, expL, expL_snoc own i x ys, List.append_assoc]
theorem expL_step (own : List Int) (i : Nat) (xs : List Int) (j : Nat) (h : j < xs.length) : expL own i (xs.take (j + 1)) = expL own i (xs.take j) ++ if xs.getD j 0 = (i : Int) then own else [xs.getD j 0] := by
  rw [getD_lt _ _ _ h, ← expL_snoc, List.take_append_getElem h]
theorem expL_len (own : List Int) (i : Nat) (ho : own.length ≤ 64) : ∀ xs : List Int, (expL own i xs).length ≤ 64 * xs.length
  | [] => by simp [expL]
  | x :: xs => by
    have := expL_len own i ho xs
    rw [expL, List.length_append, List.length_cons]
    split
    · omega
    · simp only [List.length_singleton];omega
theorem expL_mem (own : List Int) (i : Nat) (y : Int) : ∀ xs : List Int, y ∈ expL own i xs ↔ (y ∈ xs ∧ y ≠ (i : Int)) ∨ ((i : Int) ∈ xs ∧ y ∈ own)
  | [] => by simp [expL]
  | x :: xs => by
    rw [expL, List.mem_append, expL_mem own i y xs]
    by_cases h : x = (i : Int)
    · subst h
      rw [if_pos rfl]
      simp only [List.mem_cons, true_or, true_and]
      constructor
      · rintro (h | ⟨h1, h2⟩ | ⟨_, h⟩)
        · exact .inr h
        · exact .inl ⟨.inr h1, h2⟩
        · exact .inr h
      · rintro (⟨rfl | h1, h2⟩ | h)
        · exact absurd rfl h2
        · exact .inr (.inl ⟨h1, h2⟩)
        · exact .inl h
    · rw [if_neg h]
      simp only [List.mem_cons, List.not_mem_nil, or_false]
      constructor
      · rintro (rfl | ⟨h1, h2⟩ | ⟨h1, h2⟩)
        · exact .inl ⟨.inl rfl, h⟩
        · exact .inl ⟨.inr h1, h2⟩
        · exact .inr ⟨.inr h1, h2⟩
      · rintro (⟨rfl | h1, h2⟩ | ⟨h1 | h1, h2⟩)
        · exact .inl rfl
        · exact .inr (.inl ⟨h1, h2⟩)
        · exact absurd h1.symm h
        · exact .inr (.inr ⟨h1, h2⟩)
def decI (i : Nat) (x : Int) : Int := if (i : Int) < x then x - 1 else x
def decK (i : Nat) (ys : List Int) (j : Nat) : List Int := (ys.take j).map (decI i) ++ ys.drop j
theorem decK_len (i : Nat) (ys : List Int) (j : Nat) : (decK i ys j).length = ys.length := by
  unfold decK
  rw [List.length_append, List.length_map, List.length_take, List.length_drop]
  omega
theorem decK_zero (i : Nat) (ys : List Int) : decK i ys 0 = ys := by simp [decK]
theorem decK_all (i : Nat) (ys : List Int) : decK i ys ys.length = ys.map (decI i) := by simp [decK]
theorem decK_at (i : Nat) (ys : List Int) (j : Nat) (h : j < ys.length) : (decK i ys j).getD j 0 = ys.getD j 0 := by
  unfold decK
  rw [List.getD_eq_getElem?_getD, List.getElem?_append_right (by simp;omega), List.getElem?_drop, ← List.getD_eq_getElem?_getD]
  congr 1
  simp;omega
theorem decK_step (i : Nat) (ys : List Int) (j : Nat) (h : j < ys.length) : decK i ys (j + 1) = (decK i ys j).set j (decI i (ys.getD j 0)) := by
  have e1 : (ys.take j).map (decI i) ++ ys.drop j = (ys.take j).map (decI i) ++ ys[j] :: ys.drop (j + 1) := by rw [← List.drop_eq_getElem_cons h]
  have hl : ((ys.take j).map (decI i)).length = j := by simp;omega
  unfold decK
  rw [e1, List.set_append_right _ _ (by omega), hl, Nat.sub_self, List.set_cons_zero, getD_lt _ _ _ h, ← List.take_append_getElem h, List.map_append, List.append_assoc]
  rfl
def remC (s : Stem) (i k : Nat) : List Int := Lib.compact (srtL (expL (s.par.getD i []) i (s.par.getD k [])))
def remL (s : Stem) (i k : Nat) : List Int := (remC s i k).map (decI i)
def kpt (i k : Nat) : List Nat := (List.range k).filter (fun j => decide (j ≠ i))
theorem kpt_step (i k : Nat) : kpt i (k + 1) = kpt i k ++ if k = i then [] else [k] := by
  unfold kpt
  rw [List.range_succ, List.filter_append]
  congr 1
  by_cases h : k = i
  · rw [if_pos h, List.filter_cons_of_neg (by simpa using h)]; rfl
  · rw [if_neg h, List.filter_cons_of_pos (by simpa using h)]; rfl
theorem kpt_len (i k : Nat) : (kpt i k).length ≤ k := Nat.le_trans (List.length_filter_le _ _) (by simp)
def remS (s : Stem) (i : Nat) : Stem := ⟨(kpt i s.names.length).map (fun k => s.names.getD k ByteArray.empty), (kpt i s.names.length).map (fun k => s.ext.getD k false), (kpt i s.names.length).map (remL s i)⟩
end Go.Proofs.YtpfemholpigdeaaGreatDoor
namespace Go.Proofs.YtpfemholpigdeaaGreatDoor
theorem okPar_getD {par : List (List Int)} (h : okPar par) (k : Nat) : ∀ p ∈ par.getD k [], 0 ≤ p ∧ p < k := fun p hp => by
  by_cases hk : k < par.length
  · rw [getD_lt _ _ _ hk] at hp; exact h k hk p hp
  · rw [getD_ge _ _ _ (by omega)] at hp; simp at hp
end Go.Proofs.YtpfemholpigdeaaGreatDoor
namespace Go.Proofs.YtpfemholpigdeaaGreatDoor
open Go.RowKit
section
variable {P : Program} {n : Nat} {w0 : World} {K : Fm → List Res → Prop} {F : Fm} {L : List Res} {ops : Array Oper} {rest : List Oper}
theorem OKx_world {Lw : List Res} (h : ∀ w, Hp w0.heap.size w0 w L → OKx P n w0 (.seq Lw) ops K rest F L) : OKx P n w0 (.seq Lw) ops K rest F L := by
  unfold OKx
  intro w a hf hp
  exact (h w hp).use w a hf hp
end
end Go.Proofs.YtpfemholpigdeaaGreatDoor
