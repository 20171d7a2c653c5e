/-
  Part 21 of the proof: Ex2. No statement of the seat is proved here.
-/
import Derived.Test.YtpknpbeiifjmgaaDoorMHSa3820
namespace Go.Proofs.YtpknpbeiifjmgaaDoor
open Go.RowKit
def StV (w : World) (v : Value) (s : Stem) (vs : List Value) : Prop := ∃ nv ev pv, v = .agg #[nv, ev, pv] ∧ Strs w nv s.names ∧ Bools w ev s.ext ∧
  Sl w pv 1 s.par.length (fun j => vs.getD j undef) ∧ vs.length = s.par.length ∧ ∀ k, (h : k < s.par.length) → Ints w (vs.getD k undef) s.par[k]
theorem StV.stm {w : World} {v : Value} {s : Stem} {vs : List Value} (h : StV w v s vs) : Stm w v s := by
  obtain ⟨nv, ev, pv, rfl, hS, hE, hsl, hvl, hint⟩ := h
  exact ⟨nv, ev, pv, rfl, hS, hE, vs, hsl, hvl, hint⟩
theorem Stm.stV {w : World} {v : Value} {s : Stem} (h : Stm w v s) : ∃ vs, StV w v s vs := by
  obtain ⟨nv, ev, pv, rfl, hS, hE, vs, hsl, hvl, hint⟩ := h
  exact ⟨vs, nv, ev, pv, rfl, hS, hE, hsl, hvl, hint⟩
theorem StV.below {w w1 : World} {v : Value} {s : Stem} {vs : List Value} (h : StV w v s vs) (hb : Below w.heap.size w w1) : StV w1 v s vs := by
  obtain ⟨nv, ev, pv, rfl, hS, hE, hsl, hvl, hint⟩ := h
  exact ⟨nv, ev, pv, rfl, hS.below hb, hE.below hb, hsl.below hb, hvl, fun k hk => (hint k hk).below hb⟩
def Ex2R (v : Value) (s : Stem) (c p : Int) (vs : List Value) (u : Value) (L : List Res) : Prop :=
  (extE s c p ≠ 0 ∧ u = .tuple #[.agg #[.slice none 0 0, .slice none 0 0, .slice none 0 0], .int .i64 (extE s c p)] ∧ L = []) ∨
  (extE s c p = 0 ∧ ∃ na nc ea ec pa pc, u = .tuple #[.agg #[.slice na s.names.length nc, .slice ea s.ext.length ec, .slice pa s.par.length pc], .int .i64 0] ∧
    ∃ vs', ∀ w0 w, Hp w0.heap.size w0 w L → StV w v s vs → StV w (.agg #[.slice na s.names.length nc, .slice ea s.ext.length ec, .slice pa s.par.length pc]) (extS s c p) vs')
theorem stV_set {w0 w : World} {L : List Res} {vs : List Value} {s : Stem} {nv ev pv v own : Value} {p : Int} {T T2 : TypeId} {nx : Nat} (c i j : Nat) {ci : Int} (hci : ci.toNat = c) (hp : Hp w0.heap.size w0 w L) (h : StV w (.agg #[nv, ev, pv]) s vs) (hn : s.par.length ≤ 1000000)
    (hi : L[i]? = some (.row T 1 v s.par.length (vs.set c own))) (hj : L[j]? = some (.row T2 1 own nx (ints (extP s ci p)))) (hx : nx ≤ 1000000) (hc : c < s.par.length) : StV w (.agg #[nv, ev, v]) (extS s ci p) (vs.set c own) := by
  obtain ⟨_, _, _, e, hS, hE, _, hvl, hint⟩ := h
  cases e
  refine ⟨_, _, _, rfl, hS, hE, ?_, by simp [extS, hvl], fun k hk => ?_⟩
  · rw [extS, List.length_set]
    refine hp.sl i hi (by omega) fun k hk => ?_
    rw [Nat.mul_one] at hk
    rw [List.getD_eq_getElem?_getD, List.getElem?_eq_getElem (by rw [List.length_set];omega)]
    rfl
  · simp only [extS, List.length_set] at hk
    subst hci
    by_cases h : ci.toNat = k
    · subst h
      have := hp.ints j hj (by omega)
      simp only [extS, List.getElem_set_self]
      simpa [hvl, hc] using this
    · simp only [extS]
      rw [List.getElem_set_ne h]
      have := hint k hk
      simpa [List.getD_eq_getElem?_getD, List.getElem?_set_ne h] using this
set_option maxHeartbeats 2000000 in
set_option maxRecDepth 100000 in
set_option maxHeartbeats 4000000 in
theorem Extend2_sat (v : Value) (s : Stem) (c p : Int) (vs : List Value) (w : World) (h : StV w v s vs) : Sat Tryd.prog 8 [v, .int .i64 c, .int .i64 p] w (Ex2R v s c p vs) := by
  have hst := h.stm
  obtain ⟨nv, ev, pv, rfl, hS, hE, hsl, hvl, hint⟩ := h
  obtain ⟨na, nc, rfl, _⟩ := hS.at
  obtain ⟨ea, ec, rfl, _⟩ := hE.at
  have hP' : Tabs w pv s.par := ⟨vs, hsl, hvl, hint⟩
  obtain ⟨pa, pc, rfl, _⟩ := hP'.at
  obtain ⟨fv, hpv, hrow⟩ := hP'.rows
  have hone : ∀ u ∈ vs, u.oneCell' = true := fun u hu => by
    obtain ⟨j, hj, rfl⟩ := List.getElem_of_mem hu
    have := (one_of_ints (hint j (by omega))).1
    rwa [getD_lt _ _ _ hj] at this
  refine SatL.ofR 65 [.cell 6 26, .tmp 7] Tryd.func8 (by kernel_rfl) (by kernel_rfl) rfl rfl rfl ?_
  repeat' (first|(apply OK_seq)|(apply thenQ_n)|(apply OK_region)|(apply OKx_nilK)|(apply OK_block)|(apply blockQ_n)|(apply blockQ_s)|(apply thenQ_e)|(apply blockQ_e;exact rfl)|(apply thenQ_r)|(apply blockQ_r)|(apply OK_condT;exact rfl)|(apply OK_condF;exact rfl)|(apply OK_skip)|(apply OK_exit)|(apply OK_ret)|(apply OKx_move;(conv=>lhs;whnf)<;>exact rfl)|(apply OKx_assign;(conv=>lhs;whnf)<;>exact rfl)|(apply OKx_ldB;exact rfl;(first | exact at0|exact at1|exact at2|exact at3|exact at4|exact at5|exact at6|exact at7);exact rfl)|(apply OKx_ldR;(conv=>lhs;whnf)<;>exact rfl;(with_reducible assumption))|(apply OKx_ldI;exact rfl;(first | exact at0|exact at1|exact at2|exact at3|exact at4|exact at5|exact at6|exact at7);omega)|(apply OKx_len;exact rfl)|(apply OKx_lenR;(conv=>lhs;whnf)<;>exact rfl;(with_reducible assumption))|(apply OKx_lenR2;(conv=>lhs;whnf)<;>exact rfl;(with_reducible assumption))|(apply OKx_lenO;(conv=>lhs;whnf)<;>exact rfl;(first | exact at0|exact at1|exact at2|exact at3|exact at4|exact at5|exact at6|exact at7))|(apply OKx_lss;exact rfl;exact rfl;all_goals (intro _; try (exfalso;omega)))|(apply OKx_geq;exact rfl;exact rfl;all_goals (intro _; try (exfalso;omega)))|(apply OKx_neq;exact rfl;exact rfl;all_goals (intro _; try (exfalso;omega)))|(apply OKx_idxO;exact rfl;exact rfl;omega)|(apply OKx_idxR;(conv=>lhs;whnf)<;>exact rfl;(with_reducible assumption);exact rfl;omega;intro _ _)|(apply OKx_idxOz;exact rfl;exact rfl;omega;omega)|(apply OKx_idxRz;(conv=>lhs;whnf)<;>exact rfl;(with_reducible assumption);exact rfl;omega;omega;intro _ _)|(apply OKx_fldO;exact rfl;exact rfl)|(apply OKx_fldR;(conv=>lhs;whnf)<;>exact rfl;(with_reducible assumption); decide;intro _ _)|(apply OKx_inc;exact rfl;exact rfl;omega)|(apply OKx_addN;exact rfl;exact rfl;omega)|(apply OKx_add;exact rfl;exact rfl;omega;omega)|(apply OKx_boxA;exact rfl;intro _)|(apply OKx_allocA;intro _)|(apply OKx_ldBA;exact rfl;(first | exact at0|exact at1|exact at2|exact at3|exact at4|exact at5|exact at6|exact at7);exact rfl)|(apply OKx_ldRA;(conv=>lhs;whnf)<;>exact rfl;(with_reducible assumption))|(apply OKx_stB;exact rfl;(conv=>lhs;whnf)<;>exact rfl;exact rfl;exact rfl;(first | exact at0|exact at1|exact at2|exact at3|exact at4|exact at5|exact at6|exact at7);exact rfl;exact rfl;exact rfl)|(apply OKx_slit1;(conv=>lhs;whnf)<;>exact rfl;exact rfl;intro _)|(apply OKx_slit2;(conv=>lhs;whnf)<;>exact rfl;(conv=>lhs;whnf)<;>exact rfl;exact rfl;exact rfl;intro _)|(apply OKx_stBA; kernel_rfl;exact rfl;exact rfl;exact rfl;(first | exact at0|exact at1|exact at2|exact at3|exact at4|exact at5|exact at6|exact at7);exact rfl;exact rfl;exact rfl))
  rename_i g3 g6 gl
  refine OK_loop1 17 [7, 9, 10, 17, 18, 19, 20, 21, 22, 23, 24, 25, 26, 27, 28] (fun m v L => ∃ k : Nat, k + m = 2 ∧ v = .int .i64 (k : Int) ∧ (∀ j, j < k → chkI s ([c, p].getD j 0) = 0) ∧ L = [.row 3 1 (.slice (some ⟨gl, 0, none⟩) 2 2) 2 (ints [c, p]), .box 26 g6 [.slice none 0 0, .slice none 0 0, .slice none 0 0], .box 26 g3 [.slice na s.names.length nc, .slice ea s.ext.length ec, .slice pa s.par.length pc]]) 2 _ (Ent.refl _ _) ⟨0, by omega, rfl, fun j hj => absurd hj (by omega), rfl⟩ ?_
  rintro m v L G ⟨k, hm, rfl, H, rfl⟩
  have hA : 2 ≤ k → stCheck s = 0 ∧ 0 ≤ c ∧ c < s.par.length ∧ 0 ≤ p ∧ p < s.par.length ∧ s.par.length = s.names.length ∧ s.par.length ≤ 64 := fun hk => by
    have h1 := chkI_zero (H 0 (by omega))
    have h2 := chkI_zero (H 1 (by omega))
    obtain ⟨_, h3, _, h4, _⟩ := stCheck_len s h1.1
    simp only [List.getD_cons_zero, List.getD_cons_succ] at h1 h2
    exact ⟨h1.1, by omega, by omega, by omega, by omega, h4, by omega⟩
  have hB : 2 ≤ k → 0 ≤ c ∧ c < s.par.length ∧ 0 ≤ p ∧ p < s.par.length ∧ s.par.length ≤ 64 := fun hk => by
    have := hA hk;omega
  have hC : 2 ≤ k → ∀ i, (s.par.getD i []).length ≤ 64 := fun hk i => by
    obtain ⟨h1, _, _, _, _, h2, h3⟩ := hA hk
    by_cases hi : i < s.par.length
    · have hok := stCheck_okPar s h1 i hi
      have hinc := stCheck_inc s h1 i hi
      have := asc_len (s.par.getD i []) hinc 64 (fun x hx => by
        have := hok x (by rwa [getD_lt _ _ _ hi] at hx)
        omega)
      omega
    · rw [getD_ge _ _ _ (by omega)]; simp
  repeat' (first|(apply OK_seq)|(apply thenQ_n)|(apply OK_region)|(apply OKx_gc 15;exact rfl; refine OKx_callV (f := 15) rfl rfl rfl (fun w1 hp => chk36_sat _ s _ w1 (hst.below hp.below)) ?_)|(apply OKx_gc 6;exact rfl; refine OKx_callB (f := 6) (b := hasI (s.par.getD c.toNat []) p) rfl rfl rfl (fun w1 hp => contains_int_sat _ _ _ w1 ((hrow c.toNat).below hp.below)) ?_ ?_ <;> intro hq)|(apply OKx_gc 16;exact rfl; refine OKx_call (f := 16) rfl rfl (fun w1 hp => clone_row_sat _ s.par.length vs w1 hvl (hsl.below hp.below) hone (by omega) (by omega)) ?_; rintro _ _ ⟨gc, cc, rfl, rfl⟩)|(apply OKx_gc 17;exact rfl; refine OKx_call (f := 17) rfl rfl (fun w1 hp => clone_int_sat _ (s.par.getD c.toNat []) w1 ((hrow c.toNat).below hp.below) (by have := hC (by omega) c.toNat;omega)) ?_; rintro vo _ rfl)|(apply OKx_gb; refine OKx_appI 1 0 rfl rfl rfl rfl (by have := hC (by omega) c.toNat;omega) (by have := hC (by omega) c.toNat;omega) ?_; intro g2 c2)|(apply OKx_gc 18;exact rfl; refine OKx_callL (f := 18) rfl rfl (sort_int_sat g2 c2 _ (s.par.getD c.toNat [] ++ [p]) _ _ 1 (by simp) rfl (by have := hC (by omega) c.toNat;omega)) ?_; rintro _ _ ⟨rfl, rfl⟩)|(apply OKx_gs; refine OKx_stW 2 rfl rfl rfl rfl rfl (by omega) rfl rfl ?_)|(apply OKx_nilK)|(apply OK_block)|(apply blockQ_n)|(apply blockQ_s)|(apply thenQ_e)|(apply blockQ_e;exact rfl)|(apply thenQ_r)|(apply blockQ_r)|(apply OK_condT;exact rfl)|(apply OK_condF;exact rfl)|(apply OK_skip)|(apply OK_exit)|(apply OK_ret)|(apply OKx_move;(conv=>lhs;whnf)<;>exact rfl)|(apply OKx_assign;(conv=>lhs;whnf)<;>exact rfl)|(apply OKx_ldB;exact rfl;(first | exact at0|exact at1|exact at2|exact at3|exact at4|exact at5|exact at6|exact at7);exact rfl)|(apply OKx_ldR;(conv=>lhs;whnf)<;>exact rfl;(with_reducible assumption))|(apply OKx_ldI;exact rfl;(first | exact at0|exact at1|exact at2|exact at3|exact at4|exact at5|exact at6|exact at7);omega)|(apply OKx_len;exact rfl)|(apply OKx_lenR;(conv=>lhs;whnf)<;>exact rfl;(with_reducible assumption))|(apply OKx_lenR2;(conv=>lhs;whnf)<;>exact rfl;(with_reducible assumption))|(apply OKx_lenO;(conv=>lhs;whnf)<;>exact rfl;(first | exact at0|exact at1|exact at2|exact at3|exact at4|exact at5|exact at6|exact at7))|(apply OKx_lss;exact rfl;exact rfl;all_goals (intro _; try (exfalso;omega)))|(apply OKx_geq;exact rfl;exact rfl;all_goals (intro _; try (exfalso;omega)))|(apply OKx_neq;exact rfl;exact rfl;all_goals (intro _; try (exfalso;omega)))|(apply OKx_idxO;exact rfl;exact rfl;omega)|(apply OKx_idxR;(conv=>lhs;whnf)<;>exact rfl;(with_reducible assumption);exact rfl;omega;intro _ _)|(apply OKx_idxOz;exact rfl;exact rfl;omega;omega)|(apply OKx_idxRz;(conv=>lhs;whnf)<;>exact rfl;(with_reducible assumption);exact rfl;omega;omega;intro _ _)|(apply OKx_fldO;exact rfl;exact rfl)|(apply OKx_fldR;(conv=>lhs;whnf)<;>exact rfl;(with_reducible assumption); decide;intro _ _)|(apply OKx_inc;exact rfl;exact rfl;omega)|(apply OKx_addN;exact rfl;exact rfl;omega)|(apply OKx_add;exact rfl;exact rfl;omega;omega)|(apply OKx_boxA;exact rfl;intro _)|(apply OKx_allocA;intro _)|(apply OKx_ldBA;exact rfl;(first | exact at0|exact at1|exact at2|exact at3|exact at4|exact at5|exact at6|exact at7);exact rfl)|(apply OKx_ldRA;(conv=>lhs;whnf)<;>exact rfl;(with_reducible assumption))|(apply OKx_stB;exact rfl;(conv=>lhs;whnf)<;>exact rfl;exact rfl;exact rfl;(first | exact at0|exact at1|exact at2|exact at3|exact at4|exact at5|exact at6|exact at7);exact rfl;exact rfl;exact rfl)|(apply OKx_slit1;(conv=>lhs;whnf)<;>exact rfl;exact rfl;intro _)|(apply OKx_slit2;(conv=>lhs;whnf)<;>exact rfl;(conv=>lhs;whnf)<;>exact rfl;exact rfl;exact rfl;intro _)|(apply OKx_stBA; kernel_rfl;exact rfl;exact rfl;exact rfl;(first | exact at0|exact at1|exact at2|exact at3|exact at4|exact at5|exact at6|exact at7);exact rfl;exact rfl;exact rfl)|(apply OKx_build0))
  · rename_i hne
    refine bodyR_r2 (by first | exact resIs_tmp (by ((conv=>lhs;whnf)<;>exact rfl)) | exact resIs_cellA 0 rfl rfl rfl | exact resIs_cellA 1 rfl rfl rfl | exact resIs_cellA 2 rfl rfl rfl | exact resIs_cellA 3 rfl rfl rfl | exact resIs_cellA 4 rfl rfl rfl | exact resIs_cellA 5 rfl rfl rfl | exact resIs_cellA 6 rfl rfl rfl | exact resIs_cellA 7 rfl rfl rfl | exact resIs_cellA 8 rfl rfl rfl | exact resIs_cellA 9 rfl rfl rfl) (by first | exact resIs_tmp (by ((conv=>lhs;whnf)<;>exact rfl)) | exact resIs_cellA 0 rfl rfl rfl | exact resIs_cellA 1 rfl rfl rfl | exact resIs_cellA 2 rfl rfl rfl | exact resIs_cellA 3 rfl rfl rfl | exact resIs_cellA 4 rfl rfl rfl | exact resIs_cellA 5 rfl rfl rfl | exact resIs_cellA 6 rfl rfl rfl | exact resIs_cellA 7 rfl rfl rfl | exact resIs_cellA 8 rfl rfl rfl | exact resIs_cellA 9 rfl rfl rfl) ?_
    have he := extE_chk k (by omega) H rfl hne
    exact ⟨_, Ent.nil, .inl ⟨by rw [he]; exact hne, by rw [he], rfl⟩⟩
  · rename_i hz
    refine ⟨by (repeat' (first | refine agree_upd rfl ?_ | exact agree_over | exact agree_refl _ _ | refine agree_over2 rfl ?_)), m - 1, _, by omega, Ent.refl _ _, ?_⟩
    refine ⟨k + 1, by omega, rfl, fun j hj => ?_, rfl⟩
    by_cases hjk : j < k
    · exact H j hjk
    · obtain rfl : j = k := by omega
      exact hz
  · refine bodyR_r2 (by first | exact resIs_tmp (by ((conv=>lhs;whnf)<;>exact rfl)) | exact resIs_cellA 0 rfl rfl rfl | exact resIs_cellA 1 rfl rfl rfl | exact resIs_cellA 2 rfl rfl rfl | exact resIs_cellA 3 rfl rfl rfl | exact resIs_cellA 4 rfl rfl rfl | exact resIs_cellA 5 rfl rfl rfl | exact resIs_cellA 6 rfl rfl rfl | exact resIs_cellA 7 rfl rfl rfl | exact resIs_cellA 8 rfl rfl rfl | exact resIs_cellA 9 rfl rfl rfl) (by first | exact resIs_tmp (by ((conv=>lhs;whnf)<;>exact rfl)) | exact resIs_cellA 0 rfl rfl rfl | exact resIs_cellA 1 rfl rfl rfl | exact resIs_cellA 2 rfl rfl rfl | exact resIs_cellA 3 rfl rfl rfl | exact resIs_cellA 4 rfl rfl rfl | exact resIs_cellA 5 rfl rfl rfl | exact resIs_cellA 6 rfl rfl rfl | exact resIs_cellA 7 rfl rfl rfl | exact resIs_cellA 8 rfl rfl rfl | exact resIs_cellA 9 rfl rfl rfl) ?_
    have h2 := hA (by omega)
    have he : extE s c p = 10 := by unfold extE; rw [if_neg (by rw [h2.1]; simp), if_neg (by omega), if_pos (by omega)]
    exact ⟨_, Ent.nil, .inl ⟨by rw [he]; decide, by rw [he], rfl⟩⟩
  · refine bodyR_r2 (by first | exact resIs_tmp (by ((conv=>lhs;whnf)<;>exact rfl)) | exact resIs_cellA 0 rfl rfl rfl | exact resIs_cellA 1 rfl rfl rfl | exact resIs_cellA 2 rfl rfl rfl | exact resIs_cellA 3 rfl rfl rfl | exact resIs_cellA 4 rfl rfl rfl | exact resIs_cellA 5 rfl rfl rfl | exact resIs_cellA 6 rfl rfl rfl | exact resIs_cellA 7 rfl rfl rfl | exact resIs_cellA 8 rfl rfl rfl | exact resIs_cellA 9 rfl rfl rfl) (by first | exact resIs_tmp (by ((conv=>lhs;whnf)<;>exact rfl)) | exact resIs_cellA 0 rfl rfl rfl | exact resIs_cellA 1 rfl rfl rfl | exact resIs_cellA 2 rfl rfl rfl | exact resIs_cellA 3 rfl rfl rfl | exact resIs_cellA 4 rfl rfl rfl | exact resIs_cellA 5 rfl rfl rfl | exact resIs_cellA 6 rfl rfl rfl | exact resIs_cellA 7 rfl rfl rfl | exact resIs_cellA 8 rfl rfl rfl | exact resIs_cellA 9 rfl rfl rfl) ?_
    have h2 := hA (by omega)
    have he : extE s c p = 7 := by unfold extE; rw [if_neg (by rw [h2.1]; simp), if_neg (by omega), if_neg (by omega), if_pos hq]
    exact ⟨_, Ent.nil, .inl ⟨by rw [he]; decide, by rw [he], rfl⟩⟩
  · have h2 := hA (by omega)
    have he : extE s c p = 0 := by unfold extE; rw [if_neg (by rw [h2.1]; simp), if_neg (by omega), if_neg (by omega), if_neg (by rw [hq]; simp)]
    have hcl : c.toNat < s.par.length := by omega
    have hcn := hC (by omega) c.toNat
    have hsr : srtL (s.par.getD c.toNat [] ++ [p]) = extP s c p := srt_eq _ _ (stCheck_inc s h2.1 _ hcl) (fun x hx => by
      have := stCheck_okPar s h2.1 c.toNat hcl x (by rwa [getD_lt _ _ _ hcl] at hx)
      omega) (by omega) (fun h => by rw [show hasI (s.par.getD c.toNat []) p = true by simpa [hasI] using h] at hq; cases hq)
    refine bodyR_r2 (by first | exact resIs_tmp (by ((conv=>lhs;whnf)<;>exact rfl)) | exact resIs_cellA 0 rfl rfl rfl | exact resIs_cellA 1 rfl rfl rfl | exact resIs_cellA 2 rfl rfl rfl | exact resIs_cellA 3 rfl rfl rfl | exact resIs_cellA 4 rfl rfl rfl | exact resIs_cellA 5 rfl rfl rfl | exact resIs_cellA 6 rfl rfl rfl | exact resIs_cellA 7 rfl rfl rfl | exact resIs_cellA 8 rfl rfl rfl | exact resIs_cellA 9 rfl rfl rfl) (by first | exact resIs_tmp (by ((conv=>lhs;whnf)<;>exact rfl)) | exact resIs_cellA 0 rfl rfl rfl | exact resIs_cellA 1 rfl rfl rfl | exact resIs_cellA 2 rfl rfl rfl | exact resIs_cellA 3 rfl rfl rfl | exact resIs_cellA 4 rfl rfl rfl | exact resIs_cellA 5 rfl rfl rfl | exact resIs_cellA 6 rfl rfl rfl | exact resIs_cellA 7 rfl rfl rfl | exact resIs_cellA 8 rfl rfl rfl | exact resIs_cellA 9 rfl rfl rfl) ?_
    rw [hsr]
    exact ⟨_, Ent.refl _ _, .inr ⟨he, _, _, _, _, _, _, rfl, vs.set c.toNat _, fun w0 w2 hp hv => stV_set c.toNat 2 1 rfl hp hv (by omega) rfl rfl (by omega) hcl⟩⟩
end Go.Proofs.YtpknpbeiifjmgaaDoor
