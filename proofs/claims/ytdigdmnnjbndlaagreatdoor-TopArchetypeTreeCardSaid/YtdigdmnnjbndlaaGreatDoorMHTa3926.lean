/-
  Part 26 of the proof: Tb33, Pc38. No statement of the seat is proved here.
-/
import Derived.Test.YtdigdmnnjbndlaaGreatDoorMHTa3925
namespace Go.Proofs.YtdigdmnnjbndlaaGreatDoor
open Go.RowKit
def TabR (c : Nat → Nat → Int) (par : List Int) (kn : Nat → Int) (S : Nat) (u : Value) (L : List Res) : Prop :=
  ∃ g vs Z, u = .slice (some ⟨g, 0, none⟩) par.length par.length ∧ L = .row 22 1 (.slice (some ⟨g, 0, none⟩) par.length par.length) par.length vs :: Z ∧ vs.length = par.length ∧ ∀ w1 w, Hp w1.heap.size w1 w Z → ∀ j, j < par.length → Ints w (vs.getD j undef) (tabV c par kn S j)
set_option maxRecDepth 100000 in
set_option maxHeartbeats 4000000 in
theorem table_sat (v sv cv : Value) (t : Tre) (st : List Int) (cs : List (List Int)) (S : Nat) (w : World) (h : Tri w v t) (hS : Ints w sv st) (hC : Tabs w cv cs) (hc : treC t = 0) (hSl : cs.length = S) (hS16 : S ≤ 1000)
    (hrow : ∀ a, a < S → (cs.getD a []).length = S) (hcb : ∀ a b, 0 ≤ cosT cs a b ∧ cosT cs a b ≤ 1000) (hlv : (lvs t).length = st.length) (ok : TrOk (cosT cs) t.par (knT (lvs t) st) S) :
    Sat Tryz.prog 54 [v, sv, cv] w (TabR (cosT cs) t.par (knT (lvs t) st) S) := by
  have ht := h
  obtain ⟨pv, nv, rfl, hP, hN⟩ := h
  have hpv := hP.sl
  obtain ⟨sa, sc, rfl, _⟩ := (show Ints w sv st from hS).at
  obtain ⟨fv, hcv, _⟩ := hC.rows
  obtain ⟨ca, cc, rfl, _⟩ := hcv.out
  have hl := treC_len hc
  have hlk := lvL_len t t.names.length
  have hL : ∀ w1, Below w.heap.size w w1 → Sat Tryz.prog 11 [.agg #[pv, nv]] w1 (fun u L => ∃ a n c, n = (lvs t).length ∧ u = .tuple #[.slice a n c, .int .i64 0] ∧ L = [.row 3 1 (.slice a n c) n (ints (lvs t))]) := fun w1 hb =>
    (Leaves_sat _ t w1 (ht.below hb)).mono (by
      rintro u L (⟨h1, _⟩ | ⟨_, a, n, c, h2, h3, _, h4⟩)
      · exact absurd hc h1
      · exact ⟨a, n, c, h2, h3, h4⟩)
  refine SatL.of 33 [6] Tryz.func54 (by kernel_rfl) (by kernel_rfl) rfl rfl rfl rfl ?_
  repeat' (first|(apply OK_seq)|(apply thenQ_n)|(apply OK_region)|(refine OKx_make (N := t.par.length) rfl rfl rfl (by omega) (by omega) ?_; intro go)|(apply OKx_gc 11;exact rfl; refine OKx_call (f := 11) rfl rfl (fun w1 hp => hL w1 hp.below) ?_; rintro _ _ ⟨la, nl, lc, hnl, rfl, rfl⟩; simp only [List.cons_append, List.nil_append])|(apply OKx_nilK)|(apply OK_block)|(apply blockQ_n)|(apply blockQ_s)|(apply thenQ_e)|(apply blockQ_e;exact rfl)|(apply thenQ_r)|(apply blockQ_r)|(apply OK_condT;exact rfl)|(apply OK_condF;exact rfl)|(apply OK_skip)|(apply OK_exit)|(apply OK_ret)|(apply OKx_move;(conv=>lhs;whnf)<;>exact rfl)|(apply OKx_assign;(conv=>lhs;whnf)<;>exact rfl)|(apply OKx_ldB;exact rfl;(first | exact at0|exact at1|exact at2|exact at3|exact at4|exact at5|exact at6|exact at7);exact rfl)|(apply OKx_ldR;(conv=>lhs;whnf)<;>exact rfl;(with_reducible assumption))|(apply OKx_len;exact rfl)|(apply OKx_lenR;(conv=>lhs;whnf)<;>exact rfl;(with_reducible assumption))|(apply OKx_lenR2;(conv=>lhs;whnf)<;>exact rfl;(with_reducible assumption))|(apply OKx_lenO;(conv=>lhs;whnf)<;>exact rfl;(first | exact at0|exact at1|exact at2|exact at3|exact at4|exact at5|exact at6|exact at7))|(apply OKx_geq;exact rfl;exact rfl;all_goals (intro _; try (exfalso;omega)))|(apply OKx_fldO;exact rfl;exact rfl)|(apply OKx_fldR;(conv=>lhs;whnf)<;>exact rfl;(with_reducible assumption); decide;intro _ _)|(apply OKx_dec;exact rfl;exact rfl;omega;omega)|(apply OKx_subN;exact rfl;exact rfl;omega;omega)|(apply OKx_sub;exact rfl;exact rfl;omega;omega)|(apply OKx_extract;exact rfl;(conv=>lhs;whnf)<;>exact rfl)|(apply OKx_boxA;exact rfl;intro _)|(apply OKx_alloc1;intro _)|(apply OKx_ldBA;exact rfl;(first | exact at0|exact at1|exact at2|exact at3|exact at4|exact at5|exact at6|exact at7);exact rfl)|(apply OKx_ldRA;(conv=>lhs;whnf)<;>exact rfl;(with_reducible assumption))|(apply OKx_stB;exact rfl;(conv=>lhs;whnf)<;>exact rfl;exact rfl;exact rfl;(first | exact at0|exact at1|exact at2|exact at3|exact at4|exact at5|exact at6|exact at7);exact rfl;exact rfl;exact rfl)|(apply OKx_box1;(conv=>lhs;whnf)<;>exact rfl;exact rfl;intro _)|(apply OKx_func;exact rfl;exact rfl))
  rename_i gT gS gC gO gL
  refine OK_loop1 11 [11, 25, 26, 27, 28, 29, 30, 31] (fun m x L => ∃ (vs : List Value) (Z : List Res), m ≤ t.par.length ∧ x = .int .i64 ((m : Int) - 1) ∧ vs.length = t.par.length ∧ (∀ w1 w, Hp w1.heap.size w1 w Z → ∀ j, m ≤ j → j < t.par.length → Ints w (vs.getD j undef) (tabV (cosT cs) t.par (knT (lvs t) st) S j)) ∧
    L = tbL go gO gT gS gL gC t.par.length nl pv nv (.slice sa st.length sc) (.slice la nl lc) (.slice ca cs.length cc) (lvs t) vs ++ Z) t.par.length (tbL go gO gT gS gL gC t.par.length nl pv nv (.slice sa st.length sc) (.slice la nl lc) (.slice ca cs.length cc) (lvs t) (List.replicate t.par.length (.slice none 0 0))) (Ent.pick [3, 2, 6, 5, 0, 4, 1] rfl) ⟨List.replicate t.par.length (.slice none 0 0), [], Nat.le_refl _, by show Value.int .i64 ((t.par.length - 1 : Nat) : Int) = _; congr 1;omega, by simp, fun _ _ _ j h1 h2 => absurd h2 (by omega), rfl⟩ ?_
  rintro m x L G ⟨vs, Z, hm, rfl, hvl, hZ, rfl⟩
  by_cases hk : 0 < m
  · obtain ⟨k, rfl⟩ : ∃ k, m = k + 1 := ⟨m - 1, by omega⟩
    have e1 : (((k + 1 : Nat) : Int) - 1) = (k : Int) := by omega
    rw [e1]
    repeat' (first|(apply OK_seq)|(apply thenQ_n)|(apply OK_region)|(apply OKx_gc 93;exact rfl; refine OKx_callL (f := 93) rfl rfl (fil_sat go gO gT gS gL gC t.par.length nl S k pv nv (.slice sa st.length sc) (.slice la nl lc) (.slice ca cs.length cc) t.par st (lvs t) cs vs Z w hP hS hC rfl (by omega) (by omega) hSl hS16 hrow hcb hlv hnl (by rw [hnl]; exact Nat.le_trans hlk (by omega)) ok hvl (fun w1 w2 hp j h1 h2 => hZ w1 w2 hp j (by omega) h2)) ?_; rintro _ _ ⟨rfl, gr, rfl⟩)|(apply OKx_nilK)|(apply OK_block)|(apply blockQ_n)|(apply blockQ_s)|(apply thenQ_e)|(apply blockQ_e;exact rfl)|(apply thenQ_r)|(apply blockQ_r)|(apply OK_condT;exact rfl)|(apply OK_condF;exact rfl)|(apply OK_skip)|(apply OK_exit)|(apply OK_ret)|(apply OKx_move;(conv=>lhs;whnf)<;>exact rfl)|(apply OKx_assign;(conv=>lhs;whnf)<;>exact rfl)|(apply OKx_ldB;exact rfl;(first | exact at0|exact at1|exact at2|exact at3|exact at4|exact at5|exact at6|exact at7);exact rfl)|(apply OKx_ldR;(conv=>lhs;whnf)<;>exact rfl;(with_reducible assumption))|(apply OKx_len;exact rfl)|(apply OKx_lenR;(conv=>lhs;whnf)<;>exact rfl;(with_reducible assumption))|(apply OKx_lenR2;(conv=>lhs;whnf)<;>exact rfl;(with_reducible assumption))|(apply OKx_lenO;(conv=>lhs;whnf)<;>exact rfl;(first | exact at0|exact at1|exact at2|exact at3|exact at4|exact at5|exact at6|exact at7))|(apply OKx_geq;exact rfl;exact rfl;all_goals (intro _; try (exfalso;omega)))|(apply OKx_fldO;exact rfl;exact rfl)|(apply OKx_fldR;(conv=>lhs;whnf)<;>exact rfl;(with_reducible assumption); decide;intro _ _)|(apply OKx_dec;exact rfl;exact rfl;omega;omega)|(apply OKx_subN;exact rfl;exact rfl;omega;omega)|(apply OKx_sub;exact rfl;exact rfl;omega;omega)|(apply OKx_extract;exact rfl;(conv=>lhs;whnf)<;>exact rfl)|(apply OKx_boxA;exact rfl;intro _)|(apply OKx_alloc1;intro _)|(apply OKx_ldBA;exact rfl;(first | exact at0|exact at1|exact at2|exact at3|exact at4|exact at5|exact at6|exact at7);exact rfl)|(apply OKx_ldRA;(conv=>lhs;whnf)<;>exact rfl;(with_reducible assumption))|(apply OKx_stB;exact rfl;(conv=>lhs;whnf)<;>exact rfl;exact rfl;exact rfl;(first | exact at0|exact at1|exact at2|exact at3|exact at4|exact at5|exact at6|exact at7);exact rfl;exact rfl;exact rfl)|(apply OKx_box1;(conv=>lhs;whnf)<;>exact rfl;exact rfl;intro _)|(apply OKx_func;exact rfl;exact rfl))
    refine ⟨by (repeat' (first | refine agree_upd rfl ?_ | exact agree_over | exact agree_refl _ _ | refine agree_over2 rfl ?_)), k, _, by omega, Ent.refl _ _, ?_⟩
    refine ⟨vs.set k (.slice (some ⟨gr, 0, none⟩) S S), .row 3 1 (.slice (some ⟨gr, 0, none⟩) S S) S (ints (tabV (cosT cs) t.par (knT (lvs t) st) S k)) :: Z, by omega, rfl, by simp [hvl], fun w1 w2 hp j h1 h2 => ?_, rfl⟩
    by_cases e : j = k
    · subst e
      rw [List.getD_eq_getElem?_getD, List.getElem?_set_self (by omega)]
      have hlt := tabV_len (cosT cs) t.par (knT (lvs t) st) S j h2
      exact hp.ints (xs := tabV (cosT cs) t.par (knT (lvs t) st) S j) (n := S) 0 rfl (by omega)
    · rw [List.getD_eq_getElem?_getD, List.getElem?_set_ne (by omega), ← List.getD_eq_getElem?_getD]
      exact hZ w1 w2 hp.drop1 j (by omega) h2
  · obtain rfl : m = 0 := by omega
    repeat' (first|(apply OK_seq)|(apply thenQ_n)|(apply OK_region)|(apply OKx_nilK)|(apply OK_block)|(apply blockQ_n)|(apply blockQ_s)|(apply thenQ_e)|(apply blockQ_e;exact rfl)|(apply thenQ_r)|(apply blockQ_r)|(apply OK_condT;exact rfl)|(apply OK_condF;exact rfl)|(apply OK_skip)|(apply OK_exit)|(apply OK_ret)|(apply OKx_move;(conv=>lhs;whnf)<;>exact rfl)|(apply OKx_assign;(conv=>lhs;whnf)<;>exact rfl)|(apply OKx_ldB;exact rfl;(first | exact at0|exact at1|exact at2|exact at3|exact at4|exact at5|exact at6|exact at7);exact rfl)|(apply OKx_ldR;(conv=>lhs;whnf)<;>exact rfl;(with_reducible assumption))|(apply OKx_len;exact rfl)|(apply OKx_lenR;(conv=>lhs;whnf)<;>exact rfl;(with_reducible assumption))|(apply OKx_lenR2;(conv=>lhs;whnf)<;>exact rfl;(with_reducible assumption))|(apply OKx_lenO;(conv=>lhs;whnf)<;>exact rfl;(first | exact at0|exact at1|exact at2|exact at3|exact at4|exact at5|exact at6|exact at7))|(apply OKx_geq;exact rfl;exact rfl;all_goals (intro _; try (exfalso;omega)))|(apply OKx_fldO;exact rfl;exact rfl)|(apply OKx_fldR;(conv=>lhs;whnf)<;>exact rfl;(with_reducible assumption); decide;intro _ _)|(apply OKx_dec;exact rfl;exact rfl;omega;omega)|(apply OKx_subN;exact rfl;exact rfl;omega;omega)|(apply OKx_sub;exact rfl;exact rfl;omega;omega)|(apply OKx_extract;exact rfl;(conv=>lhs;whnf)<;>exact rfl)|(apply OKx_boxA;exact rfl;intro _)|(apply OKx_alloc1;intro _)|(apply OKx_ldBA;exact rfl;(first | exact at0|exact at1|exact at2|exact at3|exact at4|exact at5|exact at6|exact at7);exact rfl)|(apply OKx_ldRA;(conv=>lhs;whnf)<;>exact rfl;(with_reducible assumption))|(apply OKx_stB;exact rfl;(conv=>lhs;whnf)<;>exact rfl;exact rfl;exact rfl;(first | exact at0|exact at1|exact at2|exact at3|exact at4|exact at5|exact at6|exact at7);exact rfl;exact rfl;exact rfl)|(apply OKx_box1;(conv=>lhs;whnf)<;>exact rfl;exact rfl;intro _)|(apply OKx_func;exact rfl;exact rfl))
    refine bodyQ_r1 (by ((conv=>lhs;whnf)<;>exact rfl)) ?_
    exact ⟨_, Ent.pickT [_, _, _, _, _, _, _] Z [0] rfl, go, vs, Z, rfl, rfl, hvl, fun w1 w2 hp j hj => hZ w1 w2 hp j (by omega) hj⟩
theorem idxFrom_mem (x : Int) : ∀ (zs : List Int) (i : Nat), 0 ≤ Lib.idxFrom zs x i → x ∈ zs
  | [], i, h => by simp [Lib.idxFrom] at h
  | z :: zs, i, h => by
    simp only [Lib.idxFrom] at h
    split at h
    · rename_i e; rw [e]; exact List.mem_cons_self
    · exact List.mem_cons_of_mem _ (idxFrom_mem x zs (i + 1) h)
theorem lvs_mem {t : Tre} {i : Nat} (h : (i : Int) ∈ lvs t) : i < t.names.length ∧ t.names.getD i ByteArray.empty ≠ ByteArray.empty := by
  unfold lvs lvL at h
  rw [List.mem_map] at h
  obtain ⟨k, hk, e⟩ := h
  rw [List.mem_filter, List.mem_range, decide_eq_true_eq] at hk
  obtain rfl : k = i := by omega
  exact hk
theorem badK_no {lo hi : Int} {st : List Int} (h : ¬ st.any (badK lo hi) = true) : ∀ x ∈ st, lo ≤ x ∧ x < hi := fun x hx => by
  have hb : ¬ badK lo hi x = true := fun e => h (List.any_eq_true.2 ⟨x, hx, e⟩)
  unfold badK at hb
  rw [Bool.or_eq_true, decide_eq_true_eq, decide_eq_true_eq] at hb
  omega
theorem trOk_of {t : Tre} {st : List Int} {c : Nat → Nat → Int} {S : Nat} (hc : treC t = 0) (hS : 0 < S) (h0 : ∀ a b, 0 ≤ c a b) (hk : knwE st (lvs t).length (-1) (S : Int) = 0) : TrOk c t.par (knT (lvs t) st) S := by
  have hl := treC_len hc
  have hp := treC_par hc
  unfold knwE at hk
  by_cases h1 : st.length = (lvs t).length
  rotate_left
  · rw [if_pos h1] at hk;omega
  rw [if_neg (fun h => h h1)] at hk
  by_cases h2 : st.any (badK (-1) (S : Int)) = true
  · rw [if_pos h2] at hk;omega
  have hb := badK_no h2
  refine ⟨h0, fun i h3 h4 => hp.2 i h3 h4, fun i hi => ?_, fun i k hi hk hn => ?_, hS⟩
  · unfold knT
    split
    · have hr := idxOf_rng (lvs t) (i : Int)
      have hm : st.getD (Lib.idxOf (lvs t) (i : Int)).toNat 0 ∈ st := by
        rw [getD_lt st _ _ (by omega)]; exact List.getElem_mem _
      exact hb _ hm
    · omega
  · unfold knT at hn
    split at hn
    · rename_i hx
      have hm := lvs_mem (idxFrom_mem _ _ _ hx)
      intro e
      refine hm.2 ((treC_leaf hc i hi).2 ?_)
      exact anyN_hit hk (decide_eq_true e)
    · omega
theorem uniL_row (n a : Nat) (h : a < n) : ((uniL n).getD a []).length = n := by rw [uniL_at n a h]; simp
theorem uniL_len (n : Nat) : (uniL n).length = n := by simp [uniL]
theorem uniL_rng (n a b : Nat) : 0 ≤ cosT (uniL n) a b ∧ cosT (uniL n) a b ≤ 1000 := by
  by_cases ha : a < n
  · by_cases hb : b < n
    · rw [uniL_cos n a b ha hb]; split <;> omega
    · unfold cosT; rw [getD_ge _ _ _ (by rw [uniL_row n a ha];omega)];omega
  · unfold cosT; rw [getD_ge (uniL n) _ _ (by rw [uniL_len];omega)]; simp
def fitE (t : Tre) (st : List Int) : Int := if treC t ≠ 0 then 1 else knwE st (lvs t).length (-1) 16
def fitX (t : Tre) (st : List Int) : Int := (minC (fun _ => 0) (tabV (cosT (uniL 16)) t.par (knT (lvs t) st) 16 0) 16).1
set_option maxRecDepth 100000 in
set_option maxHeartbeats 4000000 in
theorem Fitch_sat (v sv : Value) (t : Tre) (st : List Int) (w : World) (h : Tri w v t) (hS : Ints w sv st) :
    SatV Tryz.prog 15 [v, sv] w (.tuple #[.int .i64 (if fitE t st = 0 then fitX t st else 0), .int .i64 (fitE t st)]) := by
  have ht := h
  obtain ⟨pv, nv, rfl, hP, hN⟩ := h
  have hsv := hS.sl
  obtain ⟨sa, sc, rfl, _⟩ := hS.at
  have hL : ∀ w1, Below w.heap.size w w1 → Sat Tryz.prog 11 [.agg #[pv, nv]] w1 (LvR t) := fun w1 hb => Leaves_sat _ t w1 (ht.below hb)
  generalize hE : fitE t st = e
  unfold fitE at hE
  by_cases hc : treC t = 0
  rotate_left
  · rw [if_pos hc] at hE
    subst hE
    rw [if_neg (by omega)]
    have hL2 : ∀ w1, Below w.heap.size w w1 → Sat Tryz.prog 11 [.agg #[pv, nv]] w1 (fun u L => u = .tuple #[.slice none 0 0, .int .i64 1] ∧ L = []) := fun w1 hb =>
      (hL w1 hb).mono (by
        rintro u L (⟨_, h1, h2⟩ | ⟨h1, _⟩)
        · exact ⟨h1, h2⟩
        · exact absurd h1 hc)
    refine SatL.of 36 [4, 5] Tryz.func15 (by kernel_rfl) (by kernel_rfl) rfl rfl rfl rfl ?_
    repeat' (first|(apply OK_seq)|(apply thenQ_n)|(apply OK_region)|(apply OKx_gc 11;exact rfl; refine OKx_call (f := 11) rfl rfl (fun w1 hp => hL2 w1 hp.below) ?_; rintro _ _ ⟨rfl, rfl⟩; simp only [List.cons_append, List.nil_append])|(refine OK_rid 7 ?_; refine OK_quiet (id := 7) (by kernel_rfl) (by kernel_rfl) ?_)|(apply OKx_nilK)|(apply OK_block)|(apply blockQ_n)|(apply blockQ_s)|(apply thenQ_e)|(apply blockQ_e;exact rfl)|(apply thenQ_r)|(apply blockQ_r)|(apply OK_condT;exact rfl)|(apply OK_condF;exact rfl)|(apply OK_skip)|(apply OK_exit)|(apply OK_ret)|(apply OKx_move;(conv=>lhs;whnf)<;>exact rfl)|(apply OKx_assign;(conv=>lhs;whnf)<;>exact rfl)|(apply OKx_ldB;exact rfl;(first | exact at0|exact at1|exact at2|exact at3|exact at4|exact at5|exact at6|exact at7);exact rfl)|(apply OKx_ldR;(conv=>lhs;whnf)<;>exact rfl;(with_reducible assumption))|(apply OKx_len;exact rfl)|(apply OKx_lenR;(conv=>lhs;whnf)<;>exact rfl;(with_reducible assumption))|(apply OKx_lenR2;(conv=>lhs;whnf)<;>exact rfl;(with_reducible assumption))|(apply OKx_lenO;(conv=>lhs;whnf)<;>exact rfl;(first | exact at0|exact at1|exact at2|exact at3|exact at4|exact at5|exact at6|exact at7))|(apply OKx_neq;exact rfl;exact rfl;all_goals (intro _; try (exfalso;omega)))|(apply OKx_idxO;exact rfl;exact rfl;omega)|(apply OKx_idxR;(conv=>lhs;whnf)<;>exact rfl;(with_reducible assumption);exact rfl;omega;intro _ _)|(apply OKx_idxOz;exact rfl;exact rfl;omega;omega)|(apply OKx_idxRz;(conv=>lhs;whnf)<;>exact rfl;(with_reducible assumption);exact rfl;omega;omega;intro _ _)|(apply OKx_extract;exact rfl;(conv=>lhs;whnf)<;>exact rfl)|(apply OKx_boxA;exact rfl;intro _)|(apply OKx_ldBA;exact rfl;(first | exact at0|exact at1|exact at2|exact at3|exact at4|exact at5|exact at6|exact at7);exact rfl)|(apply OKx_ldRA;(conv=>lhs;whnf)<;>exact rfl;(with_reducible assumption)))
    refine bodyQ_r2 (by ((conv=>lhs;whnf)<;>exact rfl)) (by ((conv=>lhs;whnf)<;>exact rfl)) ?_
    exact ⟨_, Ent.nil, rfl, rfl⟩
  rw [if_neg (fun h => h hc)] at hE
  subst hE
  have hl := treC_len hc
  have hlk := lvL_len t t.names.length
  have hlv64 : (lvs t).length ≤ 64 := Nat.le_trans hlk (by omega)
  have hL3 : ∀ w1, Below w.heap.size w w1 → Sat Tryz.prog 11 [.agg #[pv, nv]] w1 (fun u L => ∃ a n c, n = (lvs t).length ∧ u = .tuple #[.slice a n c, .int .i64 0] ∧ L = [.row 3 1 (.slice a n c) n (ints (lvs t))]) := fun w1 hb =>
    (hL w1 hb).mono (by
      rintro u L (⟨h1, _⟩ | ⟨_, a, n, c, h2, h3, _, h4⟩)
      · exact absurd hc h1
      · exact ⟨a, n, c, h2, h3, h4⟩)
  have hkn : ∀ w1, Below w.heap.size w w1 → SatV Tryz.prog 52 [.slice sa st.length sc, .int .i64 ((lvs t).length : Int), .int .i64 (-1), .int .i64 16] w1 (.int .i64 (knwE st (lvs t).length (-1) 16)) := fun w1 hb => knw_sat _ st _ _ _ w1 (hS.below hb) (by omega)
  by_cases hk : knwE st (lvs t).length (-1) 16 = 0
  rotate_left
  · rw [if_neg hk]
    refine SatL.of 36 [4, 5] Tryz.func15 (by kernel_rfl) (by kernel_rfl) rfl rfl rfl rfl ?_
    repeat' (first|(apply OK_seq)|(apply thenQ_n)|(apply OK_region)|(apply OKx_gc 11;exact rfl; refine OKx_call (f := 11) rfl rfl (fun w1 hp => hL3 w1 hp.below) ?_; rintro _ _ ⟨la, nl, lc, rfl, rfl, rfl⟩; simp only [List.cons_append, List.nil_append])|(apply OKx_gc 52;exact rfl; refine OKx_callV (f := 52) rfl rfl rfl (fun w1 hp => hkn w1 hp.below) ?_)|(refine OK_rid 7 ?_; refine OK_quiet (id := 7) (by kernel_rfl) (by kernel_rfl) ?_)|(apply OKx_nilK)|(apply OK_block)|(apply blockQ_n)|(apply blockQ_s)|(apply thenQ_e)|(apply blockQ_e;exact rfl)|(apply thenQ_r)|(apply blockQ_r)|(apply OK_condT;exact rfl)|(apply OK_condF;exact rfl)|(apply OK_skip)|(apply OK_exit)|(apply OK_ret)|(apply OKx_move;(conv=>lhs;whnf)<;>exact rfl)|(apply OKx_assign;(conv=>lhs;whnf)<;>exact rfl)|(apply OKx_ldB;exact rfl;(first | exact at0|exact at1|exact at2|exact at3|exact at4|exact at5|exact at6|exact at7);exact rfl)|(apply OKx_ldR;(conv=>lhs;whnf)<;>exact rfl;(with_reducible assumption))|(apply OKx_len;exact rfl)|(apply OKx_lenR;(conv=>lhs;whnf)<;>exact rfl;(with_reducible assumption))|(apply OKx_lenR2;(conv=>lhs;whnf)<;>exact rfl;(with_reducible assumption))|(apply OKx_lenO;(conv=>lhs;whnf)<;>exact rfl;(first | exact at0|exact at1|exact at2|exact at3|exact at4|exact at5|exact at6|exact at7))|(apply OKx_neq;exact rfl;exact rfl;all_goals (intro _; try (exfalso;omega)))|(apply OKx_idxO;exact rfl;exact rfl;omega)|(apply OKx_idxR;(conv=>lhs;whnf)<;>exact rfl;(with_reducible assumption);exact rfl;omega;intro _ _)|(apply OKx_idxOz;exact rfl;exact rfl;omega;omega)|(apply OKx_idxRz;(conv=>lhs;whnf)<;>exact rfl;(with_reducible assumption);exact rfl;omega;omega;intro _ _)|(apply OKx_extract;exact rfl;(conv=>lhs;whnf)<;>exact rfl)|(apply OKx_boxA;exact rfl;intro _)|(apply OKx_ldBA;exact rfl;(first | exact at0|exact at1|exact at2|exact at3|exact at4|exact at5|exact at6|exact at7);exact rfl)|(apply OKx_ldRA;(conv=>lhs;whnf)<;>exact rfl;(with_reducible assumption)))
    refine bodyQ_r2 (by ((conv=>lhs;whnf)<;>exact rfl)) (by ((conv=>lhs;whnf)<;>exact rfl)) ?_
    exact ⟨_, Ent.nil, rfl, rfl⟩
  rw [if_pos hk]
  rw [hk]
  rw [hk] at hkn
  have ok : TrOk (cosT (uniL 16)) t.par (knT (lvs t) st) 16 := trOk_of hc (by omega) (fun a b => (uniL_rng 16 a b).1) hk
  have hls : (lvs t).length = st.length := by
    unfold knwE at hk
    by_cases h1 : st.length = (lvs t).length
    · exact h1.symm
    · rw [if_pos h1] at hk;omega
  have hT : ∀ w1 cv, Below w.heap.size w w1 → Tabs w1 cv (uniL 16) → Sat Tryz.prog 54 [.agg #[pv, nv], .slice sa st.length sc, cv] w1 (TabR (cosT (uniL 16)) t.par (knT (lvs t) st) 16) := fun w1 cv hb hC =>
    table_sat _ _ cv t st (uniL 16) 16 w1 (ht.below hb) (hS.below hb) hC hc (uniL_len 16) (by omega) (fun a ha => uniL_row 16 a ha) (uniL_rng 16) hls ok
  have htl := tabV_len (cosT (uniL 16)) t.par (knT (lvs t) st) 16 0 hl.1
  have hlea : ∀ v1 w1, Ints w1 v1 (tabV (cosT (uniL 16)) t.par (knT (lvs t) st) 16 0) → SatV Tryz.prog 53 [v1] w1 (.tuple #[.int .i64 (fitX t st), .int .i64 (minC (fun _ => 0) (tabV (cosT (uniL 16)) t.par (knT (lvs t) st) 16 0) 16).2]) := fun v1 w1 hv => by
    have := least_sat v1 _ w1 hv
    rw [htl] at this
    exact this
  refine SatL.of 36 [4, 5] Tryz.func15 (by kernel_rfl) (by kernel_rfl) rfl rfl rfl rfl ?_
  repeat' (first|(apply OK_seq)|(apply thenQ_n)|(apply OK_region)|(apply OKx_gc 11;exact rfl; refine OKx_call (f := 11) rfl rfl (fun w1 hp => hL3 w1 hp.below) ?_; rintro _ _ ⟨la, nl, lc, rfl, rfl, rfl⟩; simp only [List.cons_append, List.nil_append])|(apply OKx_gc 52;exact rfl; refine OKx_callV (f := 52) rfl rfl rfl (fun w1 hp => hkn w1 hp.below) ?_)|(apply OKx_nilK)|(apply OK_block)|(apply blockQ_n)|(apply blockQ_s)|(apply thenQ_e)|(apply blockQ_e;exact rfl)|(apply thenQ_r)|(apply blockQ_r)|(apply OK_condT;exact rfl)|(apply OK_condF;exact rfl)|(apply OK_skip)|(apply OK_exit)|(apply OK_ret)|(apply OKx_move;(conv=>lhs;whnf)<;>exact rfl)|(apply OKx_assign;(conv=>lhs;whnf)<;>exact rfl)|(apply OKx_ldB;exact rfl;(first | exact at0|exact at1|exact at2|exact at3|exact at4|exact at5|exact at6|exact at7);exact rfl)|(apply OKx_ldR;(conv=>lhs;whnf)<;>exact rfl;(with_reducible assumption))|(apply OKx_len;exact rfl)|(apply OKx_lenR;(conv=>lhs;whnf)<;>exact rfl;(with_reducible assumption))|(apply OKx_lenR2;(conv=>lhs;whnf)<;>exact rfl;(with_reducible assumption))|(apply OKx_lenO;(conv=>lhs;whnf)<;>exact rfl;(first | exact at0|exact at1|exact at2|exact at3|exact at4|exact at5|exact at6|exact at7))|(apply OKx_neq;exact rfl;exact rfl;all_goals (intro _; try (exfalso;omega)))|(apply OKx_idxO;exact rfl;exact rfl;omega)|(apply OKx_idxR;(conv=>lhs;whnf)<;>exact rfl;(with_reducible assumption);exact rfl;omega;intro _ _)|(apply OKx_idxOz;exact rfl;exact rfl;omega;omega)|(apply OKx_idxRz;(conv=>lhs;whnf)<;>exact rfl;(with_reducible assumption);exact rfl;omega;omega;intro _ _)|(apply OKx_extract;exact rfl;(conv=>lhs;whnf)<;>exact rfl)|(apply OKx_boxA;exact rfl;intro _)|(apply OKx_ldBA;exact rfl;(first | exact at0|exact at1|exact at2|exact at3|exact at4|exact at5|exact at6|exact at7);exact rfl)|(apply OKx_ldRA;(conv=>lhs;whnf)<;>exact rfl;(with_reducible assumption))|(refine OKa_end (S := []) (by kernel_rfl) ?_))
  rename_i gT _ _
  repeat' (first|(apply OK_seq)|(apply thenQ_n)|(apply OK_region)|(apply OKx_gc 55;exact rfl; refine OKx_call (f := 55) rfl rfl (fun w1 hp => unit_sat 16 w1 (by omega)) ?_; rintro _ LU ⟨gU, rfl, hU⟩)|(apply OKx_gc 54;exact rfl; refine OKx_call (f := 54) rfl rfl (fun w1 hp => hT w1 _ hp.below (hU w w1 (hp.sub (List.sublist_append_left _ _)))) ?_; rintro _ _ ⟨gO, vs, Z, rfl, rfl, hvl, hZ⟩; have hvat : vs[0]? = some (vs.getD 0 undef) := (by rw [List.getElem?_eq_getElem (by omega), getD_lt vs 0 undef (by omega)]); simp only [List.cons_append, List.nil_append])|(apply OKx_gl; refine OKx_ldW 0 rfl rfl hl.1 hvat ?_)|(apply OKx_gc 53;exact rfl; refine OKx_callV (f := 53) rfl rfl rfl (fun w1 hp => hlea _ w1 (hZ w w1 (hp.drop1.sub (List.sublist_append_left _ _)) 0 hl.1)) ?_)|(refine OK_rid 7 ?_; refine OK_pureAnz2 12 10 3 [0, 1] [.box 25 gT [pv, nv]] [9, 10, 25, 26, 27, 28, 29, 30, 31, 32, 33, 34] 9 10 ((fun v1 v2 L1 => v1 = .int .i64 (fitX t st) ∧ L1 = [])) (id := 7) (by kernel_rfl) (by kernel_rfl) (by kernel_rfl) (by kernel_rfl) (by kernel_rfl) (by kernel_rfl) (by exact Ent.pick [1] rfl) (by ((try simp only [pickO, nthO, List.cons_append, List.nil_append]) <;> exact rfl)) (by kernel_rfl) ?_ (by first | exact thenQ_entN | exact blockQ_entN thenQ_entN) ?_)|(apply OKx_nilK)|(apply OK_block)|(apply blockQ_n)|(apply blockQ_s)|(apply thenQ_e)|(apply blockQ_e;exact rfl)|(apply thenQ_r)|(apply blockQ_r)|(apply OK_condT;exact rfl)|(apply OK_condF;exact rfl)|(apply OK_skip)|(apply OK_exit)|(apply OK_ret)|(apply OKx_move;(conv=>lhs;whnf)<;>exact rfl)|(apply OKx_assign;(conv=>lhs;whnf)<;>exact rfl)|(apply OKx_ldB;exact rfl;(first | exact at0|exact at1|exact at2|exact at3|exact at4|exact at5|exact at6|exact at7);exact rfl)|(apply OKx_ldR;(conv=>lhs;whnf)<;>exact rfl;(with_reducible assumption))|(apply OKx_len;exact rfl)|(apply OKx_lenR;(conv=>lhs;whnf)<;>exact rfl;(with_reducible assumption))|(apply OKx_lenR2;(conv=>lhs;whnf)<;>exact rfl;(with_reducible assumption))|(apply OKx_lenO;(conv=>lhs;whnf)<;>exact rfl;(first | exact at0|exact at1|exact at2|exact at3|exact at4|exact at5|exact at6|exact at7))|(apply OKx_neq;exact rfl;exact rfl;all_goals (intro _; try (exfalso;omega)))|(apply OKx_idxO;exact rfl;exact rfl;omega)|(apply OKx_idxR;(conv=>lhs;whnf)<;>exact rfl;(with_reducible assumption);exact rfl;omega;intro _ _)|(apply OKx_idxOz;exact rfl;exact rfl;omega;omega)|(apply OKx_idxRz;(conv=>lhs;whnf)<;>exact rfl;(with_reducible assumption);exact rfl;omega;omega;intro _ _)|(apply OKx_extract;exact rfl;(conv=>lhs;whnf)<;>exact rfl)|(apply OKx_boxA;exact rfl;intro _)|(apply OKx_ldBA;exact rfl;(first | exact at0|exact at1|exact at2|exact at3|exact at4|exact at5|exact at6|exact at7);exact rfl)|(apply OKx_ldRA;(conv=>lhs;whnf)<;>exact rfl;(with_reducible assumption))|(refine OKd_step1 (S := [0, 1]) (i1 := 2) (S1 := [0, 1, 2]) (.inr (by first | exact Ent.pick [1] rfl | exact Ent.pick [2] rfl | exact Ent.pick [3] rfl | exact Ent.pick [4] rfl | exact Ent.pick [5] rfl | exact Ent.pick [6] rfl | exact Ent.sub (by repeat (first | exact List.Sublist.refl _ | exact List.nil_sublist _ | apply List.sublist_append_of_sublist_right | apply List.Sublist.cons_cons | apply List.Sublist.cons)))) (by kernel_rfl) (by kernel_rfl) rfl ?_)|(refine OKd_step1 (S := [0, 1, 2]) (i1 := 3) (S1 := [0, 1, 2, 3]) (.inr (by first | exact Ent.pick [1] rfl | exact Ent.pick [2] rfl | exact Ent.pick [3] rfl | exact Ent.pick [4] rfl | exact Ent.pick [5] rfl | exact Ent.pick [6] rfl | exact Ent.sub (by repeat (first | exact List.Sublist.refl _ | exact List.nil_sublist _ | apply List.sublist_append_of_sublist_right | apply List.Sublist.cons_cons | apply List.Sublist.cons)))) (by kernel_rfl) (by kernel_rfl) rfl ?_)|(refine OKd_step1 (S := [0, 1, 2, 3]) (i1 := 4) (S1 := [0, 1, 2, 3, 4]) (.inl (by kernel_rfl)) (by kernel_rfl) (by kernel_rfl) rfl ?_)|(refine OKd_step1 (S := [0, 1, 2, 3, 4]) (i1 := 5) (S1 := [0, 1, 2, 3, 4, 5]) (.inl (by kernel_rfl)) (by kernel_rfl) (by kernel_rfl) rfl ?_)|(refine OKd_step1 (S := [0, 1, 2, 3, 4, 5]) (i1 := 6) (S1 := [0, 1, 2, 3, 4, 5, 6]) (.inl (by kernel_rfl)) (by kernel_rfl) (by kernel_rfl) rfl ?_)|(refine OKd_step1 (S := [0, 1, 2, 3, 4, 5, 6]) (i1 := 7) (S1 := [0, 1, 2, 3, 4, 5, 6, 7]) (.inl (by kernel_rfl)) (by kernel_rfl) (by kernel_rfl) rfl ?_)|(refine OKd_step2 (S := [0, 1, 2, 3, 4, 5, 6, 7]) (i1 := 8) (S1 := [0, 1, 2, 3, 4, 5, 6, 7, 8]) (i2 := 9) (S2 := [0, 1, 2, 3, 4, 5, 6, 7, 9]) (.inl (by kernel_rfl)) (by kernel_rfl) (by kernel_rfl) (by kernel_rfl) rfl rfl ?_ ?_)|(refine OKd_step1 (S := [0, 1, 2, 3, 4, 5, 6, 7, 9]) (i1 := 8) (S1 := [0, 1, 2, 3, 4, 5, 6, 7, 8, 9]) (.inl (by kernel_rfl)) (by kernel_rfl) (by kernel_rfl) rfl ?_)|(refine OKd_step1 (S := [0, 1, 2, 3, 4, 5, 6, 7, 8, 9]) (i1 := 10) (S1 := [0, 1, 2, 3, 4, 5, 6, 7, 8, 9, 10]) (.inl (by kernel_rfl)) (by kernel_rfl) (by kernel_rfl) rfl ?_)|(refine OKd_step1 (S := [0, 1, 2, 3, 4, 5, 6, 7, 8, 9, 10]) (i1 := 11) (S1 := [0, 1, 2, 3, 4, 5, 6, 7, 8, 9, 10, 11]) (.inl (by kernel_rfl)) (by kernel_rfl) (by kernel_rfl) rfl ?_)|(refine OKd_end (S := [0, 1, 2, 3, 4, 5, 6, 7, 8, 9, 10, 11]) (by kernel_rfl) (.inl (by kernel_rfl)) ?_)|(refine OKd_step2 (S := [0, 1, 2, 3, 4, 5, 6, 7, 8]) (i1 := 9) (S1 := [0, 1, 2, 3, 4, 5, 6, 7, 8, 9]) (i2 := 10) (S2 := [0, 1, 2, 3, 4, 5, 6, 7, 8, 10]) (.inl (by kernel_rfl)) (by kernel_rfl) (by kernel_rfl) (by kernel_rfl) rfl rfl ?_ ?_)|(refine OKd_step1 (S := [0, 1, 2, 3, 4, 5, 6, 7, 8, 10]) (i1 := 9) (S1 := [0, 1, 2, 3, 4, 5, 6, 7, 8, 9, 10]) (.inl (by kernel_rfl)) (by kernel_rfl) (by kernel_rfl) rfl ?_))
  · rintro v1 v2 L1 G ⟨rfl, rfl⟩
    unfold thenQ
    repeat' (first|(apply OK_seq)|(apply thenQ_n)|(apply OK_region)|(refine OK_rid 7 ?_; refine OK_quiet (id := 7) (by kernel_rfl) (by kernel_rfl) ?_)|(apply OKx_nilK)|(apply OK_block)|(apply blockQ_n)|(apply blockQ_s)|(apply thenQ_e)|(apply blockQ_e;exact rfl)|(apply thenQ_r)|(apply blockQ_r)|(apply OK_condT;exact rfl)|(apply OK_condF;exact rfl)|(apply OK_skip)|(apply OK_exit)|(apply OK_ret)|(apply OKx_move;(conv=>lhs;whnf)<;>exact rfl)|(apply OKx_assign;(conv=>lhs;whnf)<;>exact rfl)|(apply OKx_ldB;exact rfl;(first | exact at0|exact at1|exact at2|exact at3|exact at4|exact at5|exact at6|exact at7);exact rfl)|(apply OKx_ldR;(conv=>lhs;whnf)<;>exact rfl;(with_reducible assumption))|(apply OKx_len;exact rfl)|(apply OKx_lenR;(conv=>lhs;whnf)<;>exact rfl;(with_reducible assumption))|(apply OKx_lenR2;(conv=>lhs;whnf)<;>exact rfl;(with_reducible assumption))|(apply OKx_lenO;(conv=>lhs;whnf)<;>exact rfl;(first | exact at0|exact at1|exact at2|exact at3|exact at4|exact at5|exact at6|exact at7))|(apply OKx_neq;exact rfl;exact rfl;all_goals (intro _; try (exfalso;omega)))|(apply OKx_idxO;exact rfl;exact rfl;omega)|(apply OKx_idxR;(conv=>lhs;whnf)<;>exact rfl;(with_reducible assumption);exact rfl;omega;intro _ _)|(apply OKx_idxOz;exact rfl;exact rfl;omega;omega)|(apply OKx_idxRz;(conv=>lhs;whnf)<;>exact rfl;(with_reducible assumption);exact rfl;omega;omega;intro _ _)|(apply OKx_extract;exact rfl;(conv=>lhs;whnf)<;>exact rfl)|(apply OKx_boxA;exact rfl;intro _)|(apply OKx_ldBA;exact rfl;(first | exact at0|exact at1|exact at2|exact at3|exact at4|exact at5|exact at6|exact at7);exact rfl)|(apply OKx_ldRA;(conv=>lhs;whnf)<;>exact rfl;(with_reducible assumption)))
    refine bodyQ_r2 (by ((conv=>lhs;whnf)<;>exact rfl)) (by ((conv=>lhs;whnf)<;>exact rfl)) ?_
    exact ⟨_, Ent.nil, rfl, rfl⟩
  all_goals
    exact ⟨by (repeat' (first | refine agree_upd rfl ?_ | exact agree_over | exact agree_refl _ _ | refine agree_over2 rfl ?_)), [], Ent.nil, rfl, rfl⟩
end Go.Proofs.YtdigdmnnjbndlaaGreatDoor
namespace Go.Proofs.YtdigdmnnjbndlaaGreatDoor
open Go.RowKit
def nodS (t : Tre) (own : List Int) : List Int := (List.range t.par.length).map (knT (lvs t) own)
theorem nodS_len (t : Tre) (own : List Int) : (nodS t own).length = t.par.length := by simp [nodS]
theorem nodS_at (t : Tre) (own : List Int) (i : Nat) (h : i < t.par.length) : (nodS t own).getD i 0 = knT (lvs t) own i := by simp [nodS, h]
theorem knT_rng {t : Tre} {own : List Int} {hi : Int} (ho : ∀ x ∈ own, -1 ≤ x ∧ x < hi) (hl : own.length = (lvs t).length) (h0 : 0 < hi) (i : Nat) : -1 ≤ knT (lvs t) own i ∧ knT (lvs t) own i < hi := by
  unfold knT
  split
  · have hr := idxOf_rng (lvs t) (i : Int)
    have hm : own.getD (Lib.idxOf (lvs t) (i : Int)).toNat 0 ∈ own := by
      rw [getD_lt own _ _ (by omega)]; exact List.getElem_mem _
    exact ho _ hm
  · omega
theorem nodS_rng {t : Tre} {own : List Int} {hi : Int} (ho : ∀ x ∈ own, -1 ≤ x ∧ x < hi) (hl : own.length = (lvs t).length) (h0 : 0 < hi) : ∀ x ∈ nodS t own, -1 ≤ x ∧ x < hi := fun x hx => by
  unfold nodS at hx
  rw [List.mem_map] at hx
  obtain ⟨i, _, rfl⟩ := hx
  exact knT_rng ho hl h0 i
theorem sumZ_count (p : Nat → Bool) (f : Nat → Int) (h : ∀ i, f i = if p i = true then 1 else 0) : ∀ k : Nat, (((List.range k).filter p).length : Int) = sumZ f k
  | 0 => rfl
  | k + 1 => by
    have ih := sumZ_count p f h k
    rw [List.range_succ, List.filter_append, List.length_append, sumZ, h k, ← ih]
    by_cases hp : p k = true
    · rw [if_pos hp, List.filter_cons_of_pos hp]; simp
    · rw [if_neg hp, List.filter_cons_of_neg hp]; simp
end Go.Proofs.YtdigdmnnjbndlaaGreatDoor
