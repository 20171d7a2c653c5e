/-
  Part 14 of the proof: Pn36, Anx, Anz, Pr39, Pd36, Lr36. No statement of the seat is proved here.
-/
import Derived.Test.YtpfemholpigdeaaDoorMHTt3713
namespace Go.Proofs.YtpfemholpigdeaaDoor
open Go.RowKit
theorem leafNm_size {x : ByteArray} (h : leafNm x = true) : x.size ≤ 16 := by
  unfold leafNm at h
  cases hs : starB x with
  | true => rw [hs] at h; simp only [if_true, Bool.and_eq_true, decide_eq_true_eq] at h; exact h.1
  | false =>
    rw [hs] at h
    unfold isNm at h
    simp at h
    exact h.2.1
theorem jn_len : ∀ ws : List ByteArray, (∀ x ∈ ws, x.size ≤ 16) → (jn ws).length ≤ 17 * ws.length
  | [], _ => by simp [jn, Lib.join_nil]
  | [x], h => by
    rw [jn_one]
    have := h x List.mem_cons_self
    have e : x.data.toList.length = x.size := Array.length_toList
    simp only [List.length_singleton]
    omega
  | x :: y :: r, h => by
    rw [jn_cons, List.length_append, List.length_cons]
    have ih := jn_len (y :: r) fun z hz => h z (List.mem_cons_of_mem _ hz)
    have := h x List.mem_cons_self
    have e : x.data.toList.length = x.size := Array.length_toList
    simp only [List.length_cons] at *
    omega
theorem lnP_size {s : Stem} (hc : stCheck s = 0) (i : Nat) (hi : i < s.names.length) : (∀ x ∈ lnP s i, x.size ≤ 16) ∧ (lnP s i).length ≤ 67 := by
  obtain ⟨hn0, hn64, hel, hpl, _⟩ := stCheck_len s hc
  have hok := stCheck_okPar s hc
  have hn : ∀ k, k < s.names.length → (s.names.getD k ByteArray.empty).size ≤ 16 := fun k hk => by
    have := (stCheck_nm s hc k hk).1
    rw [getD_lt _ _ _ hk]; exact leafNm_size this
  constructor
  · intro x hx
    unfold lnP at hx
    rcases List.mem_cons.1 hx with h | h
    · subst h; exact hn i hi
    rcases List.mem_cons.1 h with h | h
    · split at h
      · subst h; decide
      · subst h; decide
    rcases List.mem_append.1 h with h | h
    · split at h
      · cases h
      · rw [List.mem_singleton] at h; subst h; decide
    · obtain ⟨p, hp, rfl⟩ := List.mem_map.1 h
      have := okPar_getD hok i p hp
      exact hn p.toNat (by omega)
  · have hl := asc_len (s.par.getD i []) (stCheck_inc s hc i (by omega)) 64 (fun x hx => by
      have := okPar_getD hok i x hx
      omega)
    unfold lnP
    simp only [List.length_cons, List.length_append, List.length_map]
    split
    · simp only [List.length_nil];omega
    · simp only [List.length_singleton];omega
theorem prK_len {s : Stem} (hc : stCheck s = 0) : ∀ k, k ≤ s.names.length → (prK s k).length ≤ 2000 * k
  | 0, _ => by simp [prK]
  | k + 1, h => by
    have ih := prK_len hc k (by omega)
    obtain ⟨h1, h2⟩ := lnP_size hc k (by omega)
    have := jn_len _ h1
    rw [prK_step, List.length_append, lnT, List.length_append, List.length_singleton]
    omega
def lnQ (s : Stem) (i j : Nat) : List ByteArray :=
  s.names.getD i ByteArray.empty :: (if s.ext.getD i false = true then w36e else w36l) :: ((if (s.par.getD i []).length = 0 then [] else [w36f]) ++ ((s.par.getD i []).take j).map fun p => s.names.getD p.toNat ByteArray.empty)
theorem lnQ_end (s : Stem) (i : Nat) : lnQ s i (s.par.getD i []).length = lnP s i := by
  unfold lnQ lnP
  rw [List.take_length]
theorem lnQ_step (s : Stem) (i j : Nat) (hj : j < (s.par.getD i []).length) : lnQ s i (j + 1) = lnQ s i j ++ [s.names.getD ((s.par.getD i []).getD j 0).toNat ByteArray.empty] := by
  unfold lnQ
  rw [List.take_succ_eq_append_getElem hj, List.map_append, getD_lt _ _ _ hj]
  simp
theorem lnQ_len (s : Stem) (i j : Nat) (hj : j ≤ (s.par.getD i []).length) : (lnQ s i j).length ≤ 3 + j := by
  unfold lnQ
  simp only [List.length_cons, List.length_append, List.length_map, List.length_take]
  split
  · simp only [List.length_nil];omega
  · simp only [List.length_singleton];omega
def prV (s : Stem) : Value := .tuple #[.string (if prE s = 0 then bOf (prT s) else ByteArray.empty), .int .i64 (prE s)]
set_option maxRecDepth 100000 in
set_option maxHeartbeats 4000000 in
theorem Print_sat (v : Value) (s : Stem) (w : World) (h : Stm w v s) : SatV Tryd.prog 12 [v] w (prV s) := by
  have hst := h
  obtain ⟨nv, ev, pv, rfl, hN, hE, hP⟩ := h
  have hns := hN.sl
  have hnb := hns.bound
  have hes := hE.sl
  obtain ⟨fv, hpv, hrow⟩ := hP.rows
  have hpb := hpv.bound
  by_cases hc : stCheck s = 0
  rotate_left
  · have he : prE s = 1 := if_pos hc
    refine SatL.of 67 [2, 3] Tryd.func12 (by kernel_rfl) (by kernel_rfl) rfl rfl rfl rfl ?_
    repeat' (first|(apply OK_seq)|(apply thenQ_n)|(apply OK_region)|(apply OKx_gc 13;exact rfl; refine OKx_callV (f := 13) rfl rfl rfl (fun w1 hp => stCheck_sat _ s w1 (hst.below hp.below)) ?_)|(apply OKx_nilK)|(apply OK_block)|(apply blockQ_n)|(apply blockQ_s)|(apply thenQ_e)|(apply blockQ_e;exact rfl)|(apply thenQ_r)|(apply blockQ_r)|(apply OK_condT;exact rfl)|(apply OK_condF;exact rfl)|(apply OK_skip)|(apply OK_exit)|(apply OK_ret)|(apply OKx_move;(conv=>lhs;whnf)<;>exact rfl)|(apply OKx_assign;(conv=>lhs;whnf)<;>exact rfl)|(apply OKx_ldB;exact rfl;(first | exact at0|exact at1|exact at2|exact at3|exact at4|exact at5|exact at6|exact at7);exact rfl)|(apply OKx_ldR;(conv=>lhs;whnf)<;>exact rfl;(with_reducible assumption))|(apply OKx_ldI;exact rfl;(first | exact at0|exact at1|exact at2|exact at3|exact at4|exact at5|exact at6|exact at7);omega)|(apply OKx_len;exact rfl)|(apply OKx_lenR;(conv=>lhs;whnf)<;>exact rfl;(with_reducible assumption))|(apply OKx_lenR2;(conv=>lhs;whnf)<;>exact rfl;(with_reducible assumption))|(apply OKx_lenO;(conv=>lhs;whnf)<;>exact rfl;(first | exact at0|exact at1|exact at2|exact at3|exact at4|exact at5|exact at6|exact at7))|(apply OKx_lss;exact rfl;exact rfl;all_goals (intro _; try (exfalso;omega)))|(apply OKx_gtr;exact rfl;exact rfl;all_goals (intro _; try (exfalso;omega)))|(apply OKx_neq;exact rfl;exact rfl;all_goals (intro _; try (exfalso;omega)))|(apply OKx_idxO;exact rfl;exact rfl;omega)|(apply OKx_idxR;(conv=>lhs;whnf)<;>exact rfl;(with_reducible assumption);exact rfl;omega;intro _ _)|(apply OKx_idxOz;exact rfl;exact rfl;omega;omega)|(apply OKx_idxRz;(conv=>lhs;whnf)<;>exact rfl;(with_reducible assumption);exact rfl;omega;omega;intro _ _)|(apply OKx_fldO;exact rfl;exact rfl)|(apply OKx_fldR;(conv=>lhs;whnf)<;>exact rfl;(with_reducible assumption); decide;intro _ _)|(apply OKx_inc;exact rfl;exact rfl;omega)|(apply OKx_addN;exact rfl;exact rfl;omega)|(apply OKx_add;exact rfl;exact rfl;omega;omega)|(apply OKx_boxA;exact rfl;intro _)|(apply OKx_allocA;intro _)|(apply OKx_ldBA;exact rfl;(first | exact at0|exact at1|exact at2|exact at3|exact at4|exact at5|exact at6|exact at7);exact rfl)|(apply OKx_ldRA;(conv=>lhs;whnf)<;>exact rfl;(with_reducible assumption))|(apply OKx_stB;exact rfl;(conv=>lhs;whnf)<;>exact rfl;exact rfl;exact rfl;(first | exact at0|exact at1|exact at2|exact at3|exact at4|exact at5|exact at6|exact at7);exact rfl;exact rfl;exact rfl)|(apply OKx_ldBo;exact rfl;(first | exact at0|exact at1|exact at2|exact at3|exact at4|exact at5|exact at6|exact at7);omega)|(apply OKx_slit1;(conv=>lhs;whnf)<;>exact rfl;exact rfl;intro _)|(apply OKx_slit2;(conv=>lhs;whnf)<;>exact rfl;(conv=>lhs;whnf)<;>exact rfl;exact rfl;exact rfl;intro _))
    refine bodyQ_r2 (by ((conv=>lhs;whnf)<;>exact rfl)) (by ((conv=>lhs;whnf)<;>exact rfl)) ?_
    exact ⟨_, Ent.nil, by unfold prV; rw [he]; rfl, rfl⟩
  obtain ⟨hn0, hn64, hel, hpl, _⟩ := stCheck_len s hc
  have hok := stCheck_okPar s hc
  refine SatL.of 67 [2, 3] Tryd.func12 (by kernel_rfl) (by kernel_rfl) rfl rfl rfl rfl ?_
  repeat' (first|(apply OK_seq)|(apply thenQ_n)|(apply OK_region)|(apply OKx_gc 13;exact rfl; refine OKx_callV (f := 13) (v := .int .i64 0) rfl rfl rfl (fun w1 hp => by rw [← hc]; exact stCheck_sat _ s w1 (hst.below hp.below)) ?_)|(apply OKx_nilK)|(apply OK_block)|(apply blockQ_n)|(apply blockQ_s)|(apply thenQ_e)|(apply blockQ_e;exact rfl)|(apply thenQ_r)|(apply blockQ_r)|(apply OK_condT;exact rfl)|(apply OK_condF;exact rfl)|(apply OK_skip)|(apply OK_exit)|(apply OK_ret)|(apply OKx_move;(conv=>lhs;whnf)<;>exact rfl)|(apply OKx_assign;(conv=>lhs;whnf)<;>exact rfl)|(apply OKx_ldB;exact rfl;(first | exact at0|exact at1|exact at2|exact at3|exact at4|exact at5|exact at6|exact at7);exact rfl)|(apply OKx_ldR;(conv=>lhs;whnf)<;>exact rfl;(with_reducible assumption))|(apply OKx_ldI;exact rfl;(first | exact at0|exact at1|exact at2|exact at3|exact at4|exact at5|exact at6|exact at7);omega)|(apply OKx_len;exact rfl)|(apply OKx_lenR;(conv=>lhs;whnf)<;>exact rfl;(with_reducible assumption))|(apply OKx_lenR2;(conv=>lhs;whnf)<;>exact rfl;(with_reducible assumption))|(apply OKx_lenO;(conv=>lhs;whnf)<;>exact rfl;(first | exact at0|exact at1|exact at2|exact at3|exact at4|exact at5|exact at6|exact at7))|(apply OKx_lss;exact rfl;exact rfl;all_goals (intro _; try (exfalso;omega)))|(apply OKx_gtr;exact rfl;exact rfl;all_goals (intro _; try (exfalso;omega)))|(apply OKx_neq;exact rfl;exact rfl;all_goals (intro _; try (exfalso;omega)))|(apply OKx_idxO;exact rfl;exact rfl;omega)|(apply OKx_idxR;(conv=>lhs;whnf)<;>exact rfl;(with_reducible assumption);exact rfl;omega;intro _ _)|(apply OKx_idxOz;exact rfl;exact rfl;omega;omega)|(apply OKx_idxRz;(conv=>lhs;whnf)<;>exact rfl;(with_reducible assumption);exact rfl;omega;omega;intro _ _)|(apply OKx_fldO;exact rfl;exact rfl)|(apply OKx_fldR;(conv=>lhs;whnf)<;>exact rfl;(with_reducible assumption); decide;intro _ _)|(apply OKx_inc;exact rfl;exact rfl;omega)|(apply OKx_addN;exact rfl;exact rfl;omega)|(apply OKx_add;exact rfl;exact rfl;omega;omega)|(apply OKx_boxA;exact rfl;intro _)|(apply OKx_allocA;intro _)|(apply OKx_ldBA;exact rfl;(first | exact at0|exact at1|exact at2|exact at3|exact at4|exact at5|exact at6|exact at7);exact rfl)|(apply OKx_ldRA;(conv=>lhs;whnf)<;>exact rfl;(with_reducible assumption))|(apply OKx_stB;exact rfl;(conv=>lhs;whnf)<;>exact rfl;exact rfl;exact rfl;(first | exact at0|exact at1|exact at2|exact at3|exact at4|exact at5|exact at6|exact at7);exact rfl;exact rfl;exact rfl)|(apply OKx_ldBo;exact rfl;(first | exact at0|exact at1|exact at2|exact at3|exact at4|exact at5|exact at6|exact at7);omega)|(apply OKx_slit1;(conv=>lhs;whnf)<;>exact rfl;exact rfl;intro _)|(apply OKx_slit2;(conv=>lhs;whnf)<;>exact rfl;(conv=>lhs;whnf)<;>exact rfl;exact rfl;exact rfl;intro _))
  rename_i g1 _ gb
  refine OK_loop1 16 [5, 6, 7, 9, 16, 17, 18, 19, 20, 21, 22, 23, 24, 25, 26, 27, 28, 29, 30, 31, 32, 33, 34, 35, 36, 37, 38, 39, 40, 41, 42, 43, 44, 45, 46, 47, 48, 49, 50, 51, 52, 53, 54, 55, 56, 57, 58, 59, 60, 61, 62, 63] (fun m v L => ∃ (k : Nat) (p bv : Value), k + m = s.names.length ∧ v = .int .i64 (k : Int) ∧ bldP gb p ∧ L = bldL gb p bv (prK s k) ++ [.box 26 g1 [nv, ev, pv]]) s.names.length _ (Ent.mk fun w1 hp => (Ent.pick [1, 0, 2] rfl).use w1 (hp.nil 5 1)) ⟨0, _, _, by omega, rfl, .inl rfl, rfl⟩ ?_
  rintro m v L G ⟨k, p, bv, hm, rfl, hbp, rfl⟩
  simp only [bldL, List.cons_append, List.nil_append]
  have hpk := prK_len hc k (by omega)
  by_cases hk : k < s.names.length
  rotate_left
  · obtain rfl : k = s.names.length := by omega
    have hpt : prK s s.names.length = prT s := rfl
    rw [hpt] at *
    by_cases hbig : 65536 < (prT s).length
    · have he : prE s = 4 := by unfold prE; rw [if_neg (by omega), if_pos hbig]
      repeat' (first|(apply OK_seq)|(apply thenQ_n)|(apply OK_region)|(apply OKx_gc 41;exact rfl; refine OKx_callL (f := 41) rfl rfl (bldLen_sat gb p bv (prT s) _ [.box 26 g1 [nv, ev, pv]] hbp) ?_; rintro _ _ ⟨rfl, rfl⟩)|(apply OKx_nilK)|(apply OK_block)|(apply blockQ_n)|(apply blockQ_s)|(apply thenQ_e)|(apply blockQ_e;exact rfl)|(apply thenQ_r)|(apply blockQ_r)|(apply OK_condT;exact rfl)|(apply OK_condF;exact rfl)|(apply OK_skip)|(apply OK_exit)|(apply OK_ret)|(apply OKx_move;(conv=>lhs;whnf)<;>exact rfl)|(apply OKx_assign;(conv=>lhs;whnf)<;>exact rfl)|(apply OKx_ldB;exact rfl;(first | exact at0|exact at1|exact at2|exact at3|exact at4|exact at5|exact at6|exact at7);exact rfl)|(apply OKx_ldR;(conv=>lhs;whnf)<;>exact rfl;(with_reducible assumption))|(apply OKx_ldI;exact rfl;(first | exact at0|exact at1|exact at2|exact at3|exact at4|exact at5|exact at6|exact at7);omega)|(apply OKx_len;exact rfl)|(apply OKx_lenR;(conv=>lhs;whnf)<;>exact rfl;(with_reducible assumption))|(apply OKx_lenR2;(conv=>lhs;whnf)<;>exact rfl;(with_reducible assumption))|(apply OKx_lenO;(conv=>lhs;whnf)<;>exact rfl;(first | exact at0|exact at1|exact at2|exact at3|exact at4|exact at5|exact at6|exact at7))|(apply OKx_lss;exact rfl;exact rfl;all_goals (intro _; try (exfalso;omega)))|(apply OKx_gtr;exact rfl;exact rfl;all_goals (intro _; try (exfalso;omega)))|(apply OKx_neq;exact rfl;exact rfl;all_goals (intro _; try (exfalso;omega)))|(apply OKx_idxO;exact rfl;exact rfl;omega)|(apply OKx_idxR;(conv=>lhs;whnf)<;>exact rfl;(with_reducible assumption);exact rfl;omega;intro _ _)|(apply OKx_idxOz;exact rfl;exact rfl;omega;omega)|(apply OKx_idxRz;(conv=>lhs;whnf)<;>exact rfl;(with_reducible assumption);exact rfl;omega;omega;intro _ _)|(apply OKx_fldO;exact rfl;exact rfl)|(apply OKx_fldR;(conv=>lhs;whnf)<;>exact rfl;(with_reducible assumption); decide;intro _ _)|(apply OKx_inc;exact rfl;exact rfl;omega)|(apply OKx_addN;exact rfl;exact rfl;omega)|(apply OKx_add;exact rfl;exact rfl;omega;omega)|(apply OKx_boxA;exact rfl;intro _)|(apply OKx_allocA;intro _)|(apply OKx_ldBA;exact rfl;(first | exact at0|exact at1|exact at2|exact at3|exact at4|exact at5|exact at6|exact at7);exact rfl)|(apply OKx_ldRA;(conv=>lhs;whnf)<;>exact rfl;(with_reducible assumption))|(apply OKx_stB;exact rfl;(conv=>lhs;whnf)<;>exact rfl;exact rfl;exact rfl;(first | exact at0|exact at1|exact at2|exact at3|exact at4|exact at5|exact at6|exact at7);exact rfl;exact rfl;exact rfl)|(apply OKx_ldBo;exact rfl;(first | exact at0|exact at1|exact at2|exact at3|exact at4|exact at5|exact at6|exact at7);omega)|(apply OKx_slit1;(conv=>lhs;whnf)<;>exact rfl;exact rfl;intro _)|(apply OKx_slit2;(conv=>lhs;whnf)<;>exact rfl;(conv=>lhs;whnf)<;>exact rfl;exact rfl;exact rfl;intro _))
      refine bodyQ_r2 (by ((conv=>lhs;whnf)<;>exact rfl)) (by ((conv=>lhs;whnf)<;>exact rfl)) ?_
      exact ⟨_, Ent.nil, by unfold prV; rw [he]; rfl, rfl⟩
    · have he : prE s = 0 := by unfold prE; rw [if_neg (by omega), if_neg hbig]
      repeat' (first|(apply OK_seq)|(apply thenQ_n)|(apply OK_region)|(apply OKx_gc 41;exact rfl; refine OKx_callL (f := 41) rfl rfl (bldLen_sat gb p bv (prT s) _ [.box 26 g1 [nv, ev, pv]] hbp) ?_; rintro _ _ ⟨rfl, rfl⟩)|(apply OKx_gc 42;exact rfl; refine OKx_callL (f := 42) rfl rfl (bldStr_sat gb p bv (prT s) _ [.box 26 g1 [nv, ev, pv]] hbp) ?_; rintro _ _ ⟨rfl, rfl⟩)|(apply OKx_nilK)|(apply OK_block)|(apply blockQ_n)|(apply blockQ_s)|(apply thenQ_e)|(apply blockQ_e;exact rfl)|(apply thenQ_r)|(apply blockQ_r)|(apply OK_condT;exact rfl)|(apply OK_condF;exact rfl)|(apply OK_skip)|(apply OK_exit)|(apply OK_ret)|(apply OKx_move;(conv=>lhs;whnf)<;>exact rfl)|(apply OKx_assign;(conv=>lhs;whnf)<;>exact rfl)|(apply OKx_ldB;exact rfl;(first | exact at0|exact at1|exact at2|exact at3|exact at4|exact at5|exact at6|exact at7);exact rfl)|(apply OKx_ldR;(conv=>lhs;whnf)<;>exact rfl;(with_reducible assumption))|(apply OKx_ldI;exact rfl;(first | exact at0|exact at1|exact at2|exact at3|exact at4|exact at5|exact at6|exact at7);omega)|(apply OKx_len;exact rfl)|(apply OKx_lenR;(conv=>lhs;whnf)<;>exact rfl;(with_reducible assumption))|(apply OKx_lenR2;(conv=>lhs;whnf)<;>exact rfl;(with_reducible assumption))|(apply OKx_lenO;(conv=>lhs;whnf)<;>exact rfl;(first | exact at0|exact at1|exact at2|exact at3|exact at4|exact at5|exact at6|exact at7))|(apply OKx_lss;exact rfl;exact rfl;all_goals (intro _; try (exfalso;omega)))|(apply OKx_gtr;exact rfl;exact rfl;all_goals (intro _; try (exfalso;omega)))|(apply OKx_neq;exact rfl;exact rfl;all_goals (intro _; try (exfalso;omega)))|(apply OKx_idxO;exact rfl;exact rfl;omega)|(apply OKx_idxR;(conv=>lhs;whnf)<;>exact rfl;(with_reducible assumption);exact rfl;omega;intro _ _)|(apply OKx_idxOz;exact rfl;exact rfl;omega;omega)|(apply OKx_idxRz;(conv=>lhs;whnf)<;>exact rfl;(with_reducible assumption);exact rfl;omega;omega;intro _ _)|(apply OKx_fldO;exact rfl;exact rfl)|(apply OKx_fldR;(conv=>lhs;whnf)<;>exact rfl;(with_reducible assumption); decide;intro _ _)|(apply OKx_inc;exact rfl;exact rfl;omega)|(apply OKx_addN;exact rfl;exact rfl;omega)|(apply OKx_add;exact rfl;exact rfl;omega;omega)|(apply OKx_boxA;exact rfl;intro _)|(apply OKx_allocA;intro _)|(apply OKx_ldBA;exact rfl;(first | exact at0|exact at1|exact at2|exact at3|exact at4|exact at5|exact at6|exact at7);exact rfl)|(apply OKx_ldRA;(conv=>lhs;whnf)<;>exact rfl;(with_reducible assumption))|(apply OKx_stB;exact rfl;(conv=>lhs;whnf)<;>exact rfl;exact rfl;exact rfl;(first | exact at0|exact at1|exact at2|exact at3|exact at4|exact at5|exact at6|exact at7);exact rfl;exact rfl;exact rfl)|(apply OKx_ldBo;exact rfl;(first | exact at0|exact at1|exact at2|exact at3|exact at4|exact at5|exact at6|exact at7);omega)|(apply OKx_slit1;(conv=>lhs;whnf)<;>exact rfl;exact rfl;intro _)|(apply OKx_slit2;(conv=>lhs;whnf)<;>exact rfl;(conv=>lhs;whnf)<;>exact rfl;exact rfl;exact rfl;intro _))
      refine bodyQ_r2 (by ((conv=>lhs;whnf)<;>exact rfl)) (by ((conv=>lhs;whnf)<;>exact rfl)) ?_
      exact ⟨_, Ent.nil, by unfold prV; rw [he, if_pos rfl], rfl⟩
  have hxk := (hrow k).sl
  have hpm := okPar_getD hok k
  obtain ⟨hls1, hls2⟩ := lnP_size hc k hk
  have hjl := jn_len _ hls1
  have hplen : (s.par.getD k []).length ≤ 67 := by
    have := lnQ_end s k
    have h2 : (lnP s k).length ≤ 67 := hls2
    unfold lnP at h2
    simp only [List.length_cons, List.length_append, List.length_map] at h2
    omega
  cases hx : s.ext.getD k false <;> by_cases hz : (s.par.getD k []).length = 0
  all_goals
    have hq0 : lnQ s k 0 = s.names.getD k ByteArray.empty :: (if s.ext.getD k false = true then w36e else w36l) :: ((if (s.par.getD k []).length = 0 then [] else [w36f]) ++ []) := by unfold lnQ; rw [List.take_zero]; rfl
    rw [hx] at hq0
    simp only [hz, if_true, if_false, List.append_nil, Bool.false_eq_true] at hq0
  all_goals repeat' (first|(apply OK_seq)|(apply thenQ_n)|(apply OK_region)|(apply OKx_gl; apply OKx_ldR;(conv=>lhs;whnf)<;>exact rfl;(with_reducible assumption); rw [hx])|(apply OKx_gs; refine OKx_stW 0 rfl rfl rfl rfl rfl (by omega) rfl rfl ?_)|(apply OKx_gb; refine OKx_append1 1 0 rfl rfl rfl rfl rfl (by omega) (by omega) ?_; intro g8 c8)|(apply OKx_nilK)|(apply OK_block)|(apply blockQ_n)|(apply blockQ_s)|(apply thenQ_e)|(apply blockQ_e;exact rfl)|(apply thenQ_r)|(apply blockQ_r)|(apply OK_condT;exact rfl)|(apply OK_condF;exact rfl)|(apply OK_skip)|(apply OK_exit)|(apply OK_ret)|(apply OKx_move;(conv=>lhs;whnf)<;>exact rfl)|(apply OKx_assign;(conv=>lhs;whnf)<;>exact rfl)|(apply OKx_ldB;exact rfl;(first | exact at0|exact at1|exact at2|exact at3|exact at4|exact at5|exact at6|exact at7);exact rfl)|(apply OKx_ldR;(conv=>lhs;whnf)<;>exact rfl;(with_reducible assumption))|(apply OKx_ldI;exact rfl;(first | exact at0|exact at1|exact at2|exact at3|exact at4|exact at5|exact at6|exact at7);omega)|(apply OKx_len;exact rfl)|(apply OKx_lenR;(conv=>lhs;whnf)<;>exact rfl;(with_reducible assumption))|(apply OKx_lenR2;(conv=>lhs;whnf)<;>exact rfl;(with_reducible assumption))|(apply OKx_lenO;(conv=>lhs;whnf)<;>exact rfl;(first | exact at0|exact at1|exact at2|exact at3|exact at4|exact at5|exact at6|exact at7))|(apply OKx_lss;exact rfl;exact rfl;all_goals (intro _; try (exfalso;omega)))|(apply OKx_gtr;exact rfl;exact rfl;all_goals (intro _; try (exfalso;omega)))|(apply OKx_neq;exact rfl;exact rfl;all_goals (intro _; try (exfalso;omega)))|(apply OKx_idxO;exact rfl;exact rfl;omega)|(apply OKx_idxR;(conv=>lhs;whnf)<;>exact rfl;(with_reducible assumption);exact rfl;omega;intro _ _)|(apply OKx_idxOz;exact rfl;exact rfl;omega;omega)|(apply OKx_idxRz;(conv=>lhs;whnf)<;>exact rfl;(with_reducible assumption);exact rfl;omega;omega;intro _ _)|(apply OKx_fldO;exact rfl;exact rfl)|(apply OKx_fldR;(conv=>lhs;whnf)<;>exact rfl;(with_reducible assumption); decide;intro _ _)|(apply OKx_inc;exact rfl;exact rfl;omega)|(apply OKx_addN;exact rfl;exact rfl;omega)|(apply OKx_add;exact rfl;exact rfl;omega;omega)|(apply OKx_boxA;exact rfl;intro _)|(apply OKx_allocA;intro _)|(apply OKx_ldBA;exact rfl;(first | exact at0|exact at1|exact at2|exact at3|exact at4|exact at5|exact at6|exact at7);exact rfl)|(apply OKx_ldRA;(conv=>lhs;whnf)<;>exact rfl;(with_reducible assumption))|(apply OKx_stB;exact rfl;(conv=>lhs;whnf)<;>exact rfl;exact rfl;exact rfl;(first | exact at0|exact at1|exact at2|exact at3|exact at4|exact at5|exact at6|exact at7);exact rfl;exact rfl;exact rfl)|(apply OKx_ldBo;exact rfl;(first | exact at0|exact at1|exact at2|exact at3|exact at4|exact at5|exact at6|exact at7);omega)|(apply OKx_slit1;(conv=>lhs;whnf)<;>exact rfl;exact rfl;intro _)|(apply OKx_slit2;(conv=>lhs;whnf)<;>exact rfl;(conv=>lhs;whnf)<;>exact rfl;exact rfl;exact rfl;intro _))
  all_goals
    first
      | refine OK_loop2 7 46 [7, 9, 46, 47, 48, 49, 50, 51, 52, 53, 54, 55, 56, 57, 58] (fun m u v L => ∃ (j n g c : Nat), j + m = (s.par.getD k []).length ∧ n = (lnQ s k j).length ∧ u = .slice (some ⟨g, 0, none⟩) n c ∧ v = .int .i64 (j : Int) ∧ L = [.row 9 1 (.slice (some ⟨g, 0, none⟩) n c) n (strs (lnQ s k j)), .box 74 gb [p, bv], .row 5 1 bv (prK s k).length (Lib.byteCells (prK s k)), .box 26 g1 [nv, ev, pv]]) (s.par.getD k []).length _ (Ent.refl _ _) ⟨0, _, _, _, by omega, rfl, by rw [hq0]; rfl, rfl, by rw [hq0]; rfl⟩ ?_
      | refine OK_loop2 7 46 [7, 9, 46, 47, 48, 49, 50, 51, 52, 53, 54, 55, 56, 57, 58] (fun m u v L => ∃ (j n g c : Nat), j + m = (s.par.getD k []).length ∧ n = (lnQ s k j).length ∧ u = .slice (some ⟨g, 0, none⟩) n c ∧ v = .int .i64 (j : Int) ∧ L = [.row 9 1 (.slice (some ⟨g, 0, none⟩) n c) n (strs (lnQ s k j)), .box 74 gb [p, bv], .row 5 1 bv (prK s k).length (Lib.byteCells (prK s k)), .box 26 g1 [nv, ev, pv]]) (s.par.getD k []).length _ (Ent.sub (List.sublist_cons_self _ _)) ⟨0, _, _, _, by omega, rfl, by rw [hq0]; rfl, rfl, by rw [hq0]; rfl⟩ ?_
    rintro m2 u v L G2 ⟨j, n, g, c, hm2, hn, rfl, rfl, rfl⟩
    have hql := lnQ_len s k j (by omega)
    by_cases hj : j < (s.par.getD k []).length
    · first
        | (exfalso;omega)
        | (have hst := lnQ_step s k j hj
           have hpj := hpm ((s.par.getD k []).getD j 0) (by rw [getD_lt _ _ _ hj]; exact List.getElem_mem hj)
           generalize hys : lnQ s k j = ys at *
           repeat' (first|(apply OK_seq)|(apply thenQ_n)|(apply OK_region)|(apply OKx_gb; refine OKx_append1 1 0 rfl rfl rfl rfl rfl (by omega) (by omega) ?_; intro g8 c8)|(apply OKx_nilK)|(apply OK_block)|(apply blockQ_n)|(apply blockQ_s)|(apply thenQ_e)|(apply blockQ_e;exact rfl)|(apply thenQ_r)|(apply blockQ_r)|(apply OK_condT;exact rfl)|(apply OK_condF;exact rfl)|(apply OK_skip)|(apply OK_exit)|(apply OK_ret)|(apply OKx_move;(conv=>lhs;whnf)<;>exact rfl)|(apply OKx_assign;(conv=>lhs;whnf)<;>exact rfl)|(apply OKx_ldB;exact rfl;(first | exact at0|exact at1|exact at2|exact at3|exact at4|exact at5|exact at6|exact at7);exact rfl)|(apply OKx_ldR;(conv=>lhs;whnf)<;>exact rfl;(with_reducible assumption))|(apply OKx_ldI;exact rfl;(first | exact at0|exact at1|exact at2|exact at3|exact at4|exact at5|exact at6|exact at7);omega)|(apply OKx_len;exact rfl)|(apply OKx_lenR;(conv=>lhs;whnf)<;>exact rfl;(with_reducible assumption))|(apply OKx_lenR2;(conv=>lhs;whnf)<;>exact rfl;(with_reducible assumption))|(apply OKx_lenO;(conv=>lhs;whnf)<;>exact rfl;(first | exact at0|exact at1|exact at2|exact at3|exact at4|exact at5|exact at6|exact at7))|(apply OKx_lss;exact rfl;exact rfl;all_goals (intro _; try (exfalso;omega)))|(apply OKx_gtr;exact rfl;exact rfl;all_goals (intro _; try (exfalso;omega)))|(apply OKx_neq;exact rfl;exact rfl;all_goals (intro _; try (exfalso;omega)))|(apply OKx_idxO;exact rfl;exact rfl;omega)|(apply OKx_idxR;(conv=>lhs;whnf)<;>exact rfl;(with_reducible assumption);exact rfl;omega;intro _ _)|(apply OKx_idxOz;exact rfl;exact rfl;omega;omega)|(apply OKx_idxRz;(conv=>lhs;whnf)<;>exact rfl;(with_reducible assumption);exact rfl;omega;omega;intro _ _)|(apply OKx_fldO;exact rfl;exact rfl)|(apply OKx_fldR;(conv=>lhs;whnf)<;>exact rfl;(with_reducible assumption); decide;intro _ _)|(apply OKx_inc;exact rfl;exact rfl;omega)|(apply OKx_addN;exact rfl;exact rfl;omega)|(apply OKx_add;exact rfl;exact rfl;omega;omega)|(apply OKx_boxA;exact rfl;intro _)|(apply OKx_allocA;intro _)|(apply OKx_ldBA;exact rfl;(first | exact at0|exact at1|exact at2|exact at3|exact at4|exact at5|exact at6|exact at7);exact rfl)|(apply OKx_ldRA;(conv=>lhs;whnf)<;>exact rfl;(with_reducible assumption))|(apply OKx_stB;exact rfl;(conv=>lhs;whnf)<;>exact rfl;exact rfl;exact rfl;(first | exact at0|exact at1|exact at2|exact at3|exact at4|exact at5|exact at6|exact at7);exact rfl;exact rfl;exact rfl)|(apply OKx_ldBo;exact rfl;(first | exact at0|exact at1|exact at2|exact at3|exact at4|exact at5|exact at6|exact at7);omega)|(apply OKx_slit1;(conv=>lhs;whnf)<;>exact rfl;exact rfl;intro _)|(apply OKx_slit2;(conv=>lhs;whnf)<;>exact rfl;(conv=>lhs;whnf)<;>exact rfl;exact rfl;exact rfl;intro _))
           refine ⟨by (repeat' (first | refine agree_upd rfl ?_ | exact agree_over | exact agree_refl _ _ | refine agree_over2 rfl ?_)), m2 - 1, _, by omega, Ent.sub (List.sublist_cons_self _ _), ?_⟩
           exact ⟨j + 1, n + 1, g8, c8, by omega, by rw [hst, List.length_append, hn]; rfl, rfl, rfl, by rw [hst]; simp [strs]⟩)
    · obtain rfl : j = (s.par.getD k []).length := by omega
      rw [lnQ_end] at *
      have hps := prK_step s k
      have hszj : (bOf (jn (lnP s k))).size = (jn (lnP s k)).length := bOf_size _
      have hsz2 : (prK s k).length + (bOf (jn (lnP s k)) ++ (⟨#[10]⟩ : ByteArray)).size ≤ 140737488355328 := by
        rw [ByteArray.size_append, hszj]
        have e1 : (⟨#[10]⟩ : ByteArray).size = 1 := rfl
        omega
      have hadd : (bOf (jn (lnP s k)) ++ (⟨#[10]⟩ : ByteArray)).data.toList = lnT (lnP s k) := by rw [ByteArray.data_append, Array.toList_append]; rfl
      repeat' (first|(apply OK_seq)|(apply thenQ_n)|(apply OK_region)|(apply OKx_gc 40;exact rfl; refine OKx_callV (f := 40) (v := .string (bOf (jn (lnP s k)))) rfl rfl rfl (fun w1 hp => join_sat _ (lnP s k) w1 (hp.strs 0 rfl (by omega) (fun x hx => by have := hls1 x hx;omega)) (show (jn (lnP s k)).length ≤ 140737488355328 by omega)) ?_)|(apply OKx_gn; refine OKx_sadd rfl rfl (show (bOf (jn (lnP s k))).size + 1 ≤ 9223372036854775807 by rw [hszj];omega) ?_)|(apply OKx_gc 39;exact rfl; refine OKx_callL (f := 39) rfl rfl ((bldW_sat gb p bv (prK s k) (bOf (jn (lnP s k)) ++ (⟨#[10]⟩ : ByteArray)) _ [.box 26 g1 [nv, ev, pv]] hbp hsz2).pre (Ent.pick [1, 2, 3] rfl)) ?_; rintro _ _ ⟨rfl, bv2, rfl⟩)|(apply OKx_nilK)|(apply OK_block)|(apply blockQ_n)|(apply blockQ_s)|(apply thenQ_e)|(apply blockQ_e;exact rfl)|(apply thenQ_r)|(apply blockQ_r)|(apply OK_condT;exact rfl)|(apply OK_condF;exact rfl)|(apply OK_skip)|(apply OK_exit)|(apply OK_ret)|(apply OKx_move;(conv=>lhs;whnf)<;>exact rfl)|(apply OKx_assign;(conv=>lhs;whnf)<;>exact rfl)|(apply OKx_ldB;exact rfl;(first | exact at0|exact at1|exact at2|exact at3|exact at4|exact at5|exact at6|exact at7);exact rfl)|(apply OKx_ldR;(conv=>lhs;whnf)<;>exact rfl;(with_reducible assumption))|(apply OKx_ldI;exact rfl;(first | exact at0|exact at1|exact at2|exact at3|exact at4|exact at5|exact at6|exact at7);omega)|(apply OKx_len;exact rfl)|(apply OKx_lenR;(conv=>lhs;whnf)<;>exact rfl;(with_reducible assumption))|(apply OKx_lenR2;(conv=>lhs;whnf)<;>exact rfl;(with_reducible assumption))|(apply OKx_lenO;(conv=>lhs;whnf)<;>exact rfl;(first | exact at0|exact at1|exact at2|exact at3|exact at4|exact at5|exact at6|exact at7))|(apply OKx_lss;exact rfl;exact rfl;all_goals (intro _; try (exfalso;omega)))|(apply OKx_gtr;exact rfl;exact rfl;all_goals (intro _; try (exfalso;omega)))|(apply OKx_neq;exact rfl;exact rfl;all_goals (intro _; try (exfalso;omega)))|(apply OKx_idxO;exact rfl;exact rfl;omega)|(apply OKx_idxR;(conv=>lhs;whnf)<;>exact rfl;(with_reducible assumption);exact rfl;omega;intro _ _)|(apply OKx_idxOz;exact rfl;exact rfl;omega;omega)|(apply OKx_idxRz;(conv=>lhs;whnf)<;>exact rfl;(with_reducible assumption);exact rfl;omega;omega;intro _ _)|(apply OKx_fldO;exact rfl;exact rfl)|(apply OKx_fldR;(conv=>lhs;whnf)<;>exact rfl;(with_reducible assumption); decide;intro _ _)|(apply OKx_inc;exact rfl;exact rfl;omega)|(apply OKx_addN;exact rfl;exact rfl;omega)|(apply OKx_add;exact rfl;exact rfl;omega;omega)|(apply OKx_boxA;exact rfl;intro _)|(apply OKx_allocA;intro _)|(apply OKx_ldBA;exact rfl;(first | exact at0|exact at1|exact at2|exact at3|exact at4|exact at5|exact at6|exact at7);exact rfl)|(apply OKx_ldRA;(conv=>lhs;whnf)<;>exact rfl;(with_reducible assumption))|(apply OKx_stB;exact rfl;(conv=>lhs;whnf)<;>exact rfl;exact rfl;exact rfl;(first | exact at0|exact at1|exact at2|exact at3|exact at4|exact at5|exact at6|exact at7);exact rfl;exact rfl;exact rfl)|(apply OKx_ldBo;exact rfl;(first | exact at0|exact at1|exact at2|exact at3|exact at4|exact at5|exact at6|exact at7);omega)|(apply OKx_slit1;(conv=>lhs;whnf)<;>exact rfl;exact rfl;intro _)|(apply OKx_slit2;(conv=>lhs;whnf)<;>exact rfl;(conv=>lhs;whnf)<;>exact rfl;exact rfl;exact rfl;intro _))
      refine ⟨by (repeat' (first | refine agree_upd rfl ?_ | exact agree_over | exact agree_refl _ _ | refine agree_over2 rfl ?_)), m - 1, _, by omega, Ent.refl _ _, ?_⟩
      exact ⟨k + 1, _, bv2, by omega, rfl, .inr rfl, by rw [hadd, ← hps]; rfl⟩
end Go.Proofs.YtpfemholpigdeaaDoor
namespace Go.Proofs.YtpfemholpigdeaaDoor
open Go.RowKit
section
variable {P : Program} {ops : Array Oper} {Q : Exit → Act → World → Prop}
def pureLB (ops : Array Oper) : List Nat → Array Bool → Bool
  | [], _ => true
  | i :: E, listed => stepB ops [] listed i && pureLB ops E (listed.setIfInBounds i true)
def listE (E : List Nat) (listed : Array Bool) : Array Bool := E.foldl (fun l i => l.setIfInBounds i true) listed
theorem anyC_pureE {Cw : World → Prop} (hsel : Region.noSelect ops = true) (hQ : ∀ c a w, ¬ Q (.panic c) a w) (fuel : Nat) : ∀ (E : List Nat) (lo : List Oper) (listed : Array Bool) (a : Act) (w : World), E.map (fun t => ops[t]?) = lo.map some → pureLB ops E listed = true →
    wpPure P ops Cw (fun a' => anyC P ops (fun _ w => Cw w) Q fuel (listE E listed) a' w) lo a → anyC P ops (fun _ w => Cw w) Q (fuel + E.length) listed a w
  | [], lo, listed, a, w, hm, _, h => by
    obtain rfl : lo = [] := by simpa using hm.symm
    exact h
  | i :: E, lo, listed, a, w, hm, hB, h => by
    cases lo with
    | nil => simp at hm
    | cons o lo =>
      simp only [List.map_cons, List.cons.injEq] at hm
      obtain ⟨hi, hm⟩ := hm
      simp only [pureLB, stepB, Bool.and_eq_true, Bool.not_eq_true'] at hB
      obtain ⟨⟨⟨⟨hr, hf⟩, _⟩, hW⟩, hB'⟩ := hB
      have hr' : i ∈ Region.ready .any ops listed := by simpa using hr
      have hW' : ∀ j ∈ waiters ops i, listed.getD j true = false := fun j hj => by
        have := List.all_eq_true.1 hW j hj
        simpa using this
      rw [List.length_cons, ← Nat.add_assoc]
      unfold wpPure at h
      by_cases hw : Region.wanted o (yielded ops a.tmps) = true
      · rw [if_pos hw] at h
        obtain ⟨v, hv, hk⟩ := h
        exact anyC_first hi (Region.noSelect_spec hsel) hQ (fun _ _ _ h => h) _ listed a w (Region.free_spec hi hf) hr' hW' (.inl ⟨hw, fun _ w' _ _ hc => hv w' hc⟩) (anyC_pureE hsel hQ fuel E lo _ _ w hm hB' hk)
      · rw [if_neg hw] at h
        exact anyC_first hi (Region.noSelect_spec hsel) hQ (fun _ _ _ h => h) _ listed a w (Region.free_spec hi hf) hr' hW' (.inr ⟨by simpa using hw, rfl⟩) (anyC_pureE hsel hQ fuel E lo _ _ w hm hB' h)
theorem wpPure_mono {C : World → Prop} {Q1 Q2 : Act → Prop} (hq : ∀ a, Q1 a → Q2 a) : ∀ (l : List Oper) (a : Act), wpPure P ops C Q1 l a → wpPure P ops C Q2 l a
  | [], a, h => hq _ h
  | o :: l, a, h => by
    unfold wpPure at h ⊢
    split
    · rename_i hw
      rw [if_pos hw] at h
      obtain ⟨v, h1, h2⟩ := h
      exact ⟨v, h1, wpPure_mono hq l _ h2⟩
    · rename_i hw
      rw [if_neg hw] at h
      exact wpPure_mono hq l _ h
end
section
variable {P : Program} {n : Nat} {w0 : World} {Q : Exit → Fm → List Res → Prop} {K : Fm → List Res → Prop} {F : Fm} {L Lw : List Res} {l : List Oper} {N f : Nat} {S : List Nat}
def OKc (P : Program) (n : Nat) (w0 : World) (Lw : List Res) (K : Fm → List Res → Prop) (l : List Oper) (N f : Nat) (S : List Nat) (F : Fm) (L : List Res) : Prop :=
  ∀ w a, Fr n a F → Hp w0.heap.size w0 w L → anyC P l.toArray (fun _ w => Hp w0.heap.size w0 w Lw) (liftN n w0 K) f (maskS N S) a w
theorem OKc.use (h : OKc P n w0 Lw K l N f S F L) : ∀ w a, Fr n a F → Hp w0.heap.size w0 w L → anyC P l.toArray (fun _ w => Hp w0.heap.size w0 w Lw) (liftN n w0 K) f (maskS N S) a w := h
theorem OKc_end (hr : (Region.ready .any l.toArray (maskS N S)).isEmpty = true) (e : Ent w0 L Lw) (h : K F L) : OKc P n w0 Lw K l N 0 S F L :=
  fun w a hf hp => ⟨e.use w hp, List.isEmpty_iff.1 hr, rfl, F, L, hf, hp, h⟩
theorem OKc_stepG (kids : List (Nat × List Nat)) (hr : Region.ready .any l.toArray (maskS N S) = kids.map (·.1)) (hne : kids ≠ []) (e : Ent w0 L Lw) (h : ∀ k ∈ kids, maskS N k.2 = (maskS N S).setIfInBounds k.1 true ∧ ∃ o, l[k.1]? = some o ∧ OKx P n w0 (.seq []) l.toArray (fun F L => OKc P n w0 Lw K l N f k.2 F L) [o] F L) :
    OKc P n w0 Lw K l N (f + 1) S F L := by
  intro w a hf hp
  refine ⟨e.use w hp, fun h0 => ?_, fun i hi => ?_⟩
  · rw [hr] at h0
    exact absurd (List.map_eq_nil_iff.1 h0) hne
  · rw [hr] at hi
    obtain ⟨k, hk, rfl⟩ := List.mem_map.1 hi
    obtain ⟨hm, o, ho, hx⟩ := h k hk
    obtain ⟨_, h1⟩ := hx.use w a hf hp
    unfold wpOp
    have ho' : l.toArray[k.1]? = some o := by simpa using ho
    rw [ho']
    dsimp only
    rw [← hm]
    split
    · rename_i hw
      rw [if_pos hw] at h1
      refine .inl (Oper.wp_mono ?_ (wp_anyQ (fun c a w h => by cases h.1) (by rintro ⟨a, w, h, _⟩; cases h) h1))
      rintro a2 w2 ⟨_, _, F', L', h2, h3, h4⟩
      exact OKc.use h4 _ _ h2 h3
    · rename_i hw
      rw [if_neg hw] at h1
      obtain ⟨_, _, F', L', h2, h3, h4⟩ := h1
      exact OKc.use h4 _ _ h2 h3
theorem OKc_step1 {i1 : Nat} {S1 : List Nat} {o1 : Oper} (e : Ent w0 L Lw) (hr : Region.ready .any l.toArray (maskS N S) = [i1]) (m1 : kidOk l N S i1 S1 = true) (g1 : l[i1]? = some o1)
    (k1 : OKx P n w0 (.seq []) l.toArray (fun F L => OKc P n w0 Lw K l N f S1 F L) [o1] F L) : OKc P n w0 Lw K l N (f + 1) S F L :=
  OKc_stepG [(i1, S1)] hr (by simp) e fun k hk => by
    obtain rfl := List.mem_singleton.1 hk
    exact ⟨kidOk_eq m1, o1, g1, k1⟩
theorem OKc_pure {i : Nat} {S1 : List Nat} {o : Oper} (hB : (Region.noSelect l.toArray && stepB l.toArray [] (maskS N S) i) = true) (m1 : kidOk l N S i S1 = true) (g1 : l[i]? = some o)
    (k1 : OKx P n w0 .pure l.toArray (fun F1 _ => OKc P n w0 Lw K l N f S1 F1 L) [o] F Lw) : OKc P n w0 Lw K l N (f + 1) S F L := by
  intro w a hf hp
  simp only [stepB, Bool.and_eq_true, Bool.not_eq_true'] at hB
  obtain ⟨hsel, ⟨⟨hr, hfr⟩, _⟩, hW⟩ := hB
  have hr' : i ∈ Region.ready .any l.toArray (maskS N S) := by simpa using hr
  have hW' : ∀ j ∈ waiters l.toArray i, (maskS N S).getD j true = false := fun j hj => by
    have := List.all_eq_true.1 hW j hj
    simpa using this
  have hi : l.toArray[i]? = some o := by simpa using g1
  have h1 := k1.useP a hf
  have hQ : ∀ c a w, ¬ liftN n w0 K (.panic c) a w := fun c a w h => by cases h.1
  unfold wpPure at h1
  by_cases hw : Region.wanted o (yielded l.toArray a.tmps) = true
  · rw [if_pos hw] at h1
    obtain ⟨v, hv, F', h2, h3⟩ := h1
    refine anyC_first hi (Region.noSelect_spec hsel) hQ (fun _ _ _ h => h) _ _ a w (Region.free_spec hi hfr) hr' hW' (.inl ⟨hw, fun _ w' _ _ hc => hv w' hc⟩) ?_
    rw [← kidOk_eq m1]
    exact OKc.use h3 _ _ h2 hp
  · rw [if_neg hw] at h1
    obtain ⟨F', h2, h3⟩ := h1
    refine anyC_first hi (Region.noSelect_spec hsel) hQ (fun _ _ _ h => h) _ _ a w (Region.free_spec hi hfr) hr' hW' (.inr ⟨by simpa using hw, rfl⟩) ?_
    rw [← kidOk_eq m1]
    exact OKc.use h3 _ _ h2 hp
theorem OK_pureAnyK (N f : Nat) (E : List Nat) (Lw : List Res) {id : Nat} {le : List Oper} (hm : P.follows .mixedOrders = true) (hN : Nat.beq l.length N = true) (hB : (Region.noSelect l.toArray && pureLB l.toArray E (maskS N [])) = true) (hI : (E.all fun i => Nat.ble (i + 1) l.length) = true)
    (hS : ((listE E (maskS N [])).toList == (maskS N E).toList) = true) (hf : Nat.beq (f + E.length) N = true) (e : Ent w0 L Lw) (hE : pickO l E = le) (hK : ∀ F2 L2, K F2 L2 → Q .normal F2 L2)
    (h : OKx P n w0 .pure l.toArray (fun F1 _ => OKc P n w0 Lw K l N f E F1 L) le F Lw) : OK P n w0 Q (.region id l.toArray true) F L := by
  obtain rfl : l.length = N := Nat.eq_of_beq_eq_true hN
  have hf' := Nat.eq_of_beq_eq_true hf
  subst hE
  simp only [Bool.and_eq_true] at hB
  have hS' : listE E (maskS l.length []) = maskS l.length E := Array.toList_inj.1 (beq_iff_eq.1 hS)
  refine OK.mk' fun w a hfr hp => wp_region_any hm ?_
  have e0 : maskS l.length [] = Array.replicate l.toArray.size false := by
    unfold maskS
    apply Array.ext
    · simp
    · intro i h1 h2; simp [memN]
  have key := anyC_pureE (P := P) (ops := l.toArray) (Q := liftN n w0 K) (Cw := fun w => Hp w0.heap.size w0 w Lw) hB.1 (fun c a w h => by cases h.1) f E (pickO l E) (maskS l.length []) a w.drew (pickO_at l E hI) hB.2 (by
    have h1 := h.useP a hfr
    refine wpPure_mono ?_ _ _ h1
    rintro a' ⟨F', h2, h3⟩
    rw [hS']
    exact OKc.use h3 _ _ h2 hp.drew)
  rw [hf', e0] at key
  have key2 := anyC_any _ _ _ _ key
  have wm : ∀ (f : Nat) (ls : Array Bool) (a : Act) (w : World), wpAny P .any l.toArray (liftN n w0 K) f ls a w → wpAny P .any l.toArray (lift n w0 Q) f ls a w := by
    intro f
    induction f with
    | zero =>
      rintro ls a w ⟨h1, _, F', L', h2, h3, h4⟩
      exact ⟨h1, F', L', h2, h3, hK _ _ h4⟩
    | succ f ih =>
      rintro ls a w ⟨h1, h2⟩
      refine ⟨fun h0 => ?_, fun i hi => ?_⟩
      · obtain ⟨_, F', L', h2, h3, h4⟩ := h1 h0
        exact ⟨F', L', h2, h3, hK _ _ h4⟩
      · have h5 := h2 i hi
        unfold wpOp at h5 ⊢
        split
        · rename_i ho
          simp only [ho] at h5
          exact ih _ _ _ h5
        · rename_i o ho
          simp only [ho] at h5
          split
          · rename_i hw
            rw [if_pos hw] at h5
            rcases h5 with h5 | ⟨_, a9, w9, h9, _⟩
            · exact .inl (wp_anyQ (fun c a w h => by cases h.1) (by rintro ⟨a, w, h, _⟩; cases h) (Oper.wp_mono (fun a w h => ih _ _ _ h) h5))
            · cases h9
          · rename_i hw
            rw [if_neg hw] at h5
            exact ih _ _ _ h5
  have h2 := wm _ _ _ _ key2
  have e2 : l.toArray.size = l.length := by simp
  rw [e2]
  rw [e2] at h2
  exact h2
theorem OK_pureAny (N f : Nat) (E : List Nat) (Lw : List Res) {id : Nat} {le : List Oper} (hm : P.follows .mixedOrders = true) (hN : Nat.beq l.length N = true) (hB : (Region.noSelect l.toArray && pureLB l.toArray E (maskS N [])) = true) (hI : (E.all fun i => Nat.ble (i + 1) l.length) = true)
    (hS : ((listE E (maskS N [])).toList == (maskS N E).toList) = true) (hf : Nat.beq (f + E.length) N = true) (e : Ent w0 L Lw) (hE : pickO l E = le)
    (h : OKx P n w0 .pure l.toArray (fun F1 _ => OKc P n w0 Lw (Q .normal) l N f E F1 L) le F Lw) : OK P n w0 Q (.region id l.toArray true) F L :=
  OK_pureAnyK N f E Lw hm hN hB hI hS hf e hE (fun _ _ h => h) h
end
attribute [irreducible] OKc
end Go.Proofs.YtpfemholpigdeaaDoor
namespace Go.Proofs.YtpfemholpigdeaaDoor
open Go.RowKit
section
variable {P : Program} {n : Nat} {w0 : World} {Q : Exit → Fm → List Res → Prop} {K : Fm → List Res → Prop} {F : Fm} {L Lw : List Res} {l : List Oper} {N f T : Nat} {S : List Nat}
def OKd (P : Program) (n : Nat) (w0 : World) (T : Nat) (Lw : List Res) (K : Fm → List Res → Prop) (l : List Oper) (N f : Nat) (S : List Nat) (F : Fm) (L : List Res) : Prop :=
  ∀ w a, Fr n a F → Hp w0.heap.size w0 w L → anyC P l.toArray (fun l w => l.getD T true = false → Hp w0.heap.size w0 w Lw) (liftN n w0 K) f (maskS N S) a w
theorem OKd.use (h : OKd P n w0 T Lw K l N f S F L) : ∀ w a, Fr n a F → Hp w0.heap.size w0 w L → anyC P l.toArray (fun l w => l.getD T true = false → Hp w0.heap.size w0 w Lw) (liftN n w0 K) f (maskS N S) a w := h
end
attribute [irreducible] OKd
end Go.Proofs.YtpfemholpigdeaaDoor
namespace Go.Proofs.YtpfemholpigdeaaDoor
theorem dscF_at (par : List (List Int)) (i j : Nat) : ∀ k, j < k → dscF par i k j = if j < i then false else if j = i then true else (par.getD j []).any fun p => dscF par i j p.toNat
  | 0, h => absurd h (by omega)
  | k + 1, h => by
    by_cases hj : j < k
    · rw [← dscF_at par i j k hj]
      exact dscL_old par i j k hj
    · obtain rfl : j = k := by omega
      exact dscL_new par i j
theorem dscF_ext (par : List (List Int)) (i j k m : Nat) (hk : j < k) (hm : j < m) : dscF par i k j = dscF par i m j := by
  rw [dscF_at par i j k hk, dscF_at par i j m hm]
theorem dsnL_mem (par : List (List Int)) (i k j : Nat) : (j : Int) ∈ dsnL par i k ↔ j < k ∧ i < j ∧ dscF par i k j = true := by
  unfold dsnL
  simp only [List.mem_map, List.mem_filter, List.mem_range, Bool.and_eq_true, decide_eq_true_eq]
  constructor
  · rintro ⟨q, ⟨h1, h2, h3⟩, e⟩
    obtain rfl : q = j := by omega
    exact ⟨h1, h2, h3⟩
  · rintro ⟨h1, h2, h3⟩
    exact ⟨j, ⟨h1, h2, h3⟩, rfl⟩
end Go.Proofs.YtpfemholpigdeaaDoor
namespace Go.Proofs.YtpfemholpigdeaaDoor
def des (par : List (List Int)) (i k : Nat) : Prop := dscF par i (k + 1) k = true
theorem des_lt {par : List (List Int)} {i k : Nat} (h : des par i k) : i ≤ k := by
  unfold des at h
  rw [dscF_at _ _ _ _ (Nat.lt_succ_self k)] at h
  by_cases hl : k < i
  · rw [if_pos hl] at h; cases h
  · omega
theorem des_self (par : List (List Int)) (i : Nat) : des par i i := by
  unfold des
  rw [dscF_at _ _ _ _ (Nat.lt_succ_self i), if_neg (by omega), if_pos rfl]
theorem des_rec {par : List (List Int)} (hok : okPar par) (i k : Nat) : des par i k ↔ k = i ∨ (i < k ∧ ∃ p ∈ par.getD k [], des par i p.toNat) := by
  have e : ∀ p ∈ par.getD k [], (dscF par i k p.toNat = true ↔ des par i p.toNat) := fun p hp => by
    have := okPar_getD hok k p hp
    unfold des
    rw [dscF_ext par i p.toNat k (p.toNat + 1) (by omega) (Nat.lt_succ_self _)]
  constructor
  · intro h
    have hl := des_lt h
    unfold des at h
    rw [dscF_at _ _ _ _ (Nat.lt_succ_self k), if_neg (by omega)] at h
    by_cases hk : k = i
    · exact .inl hk
    · rw [if_neg hk] at h
      obtain ⟨p, hp, h2⟩ := List.any_eq_true.1 h
      exact .inr ⟨by omega, p, hp, (e p hp).1 h2⟩
  · rintro (rfl | ⟨hl, p, hp, h⟩)
    · exact des_self _ _
    · unfold des
      rw [dscF_at _ _ _ _ (Nat.lt_succ_self k), if_neg (by omega), if_neg (by omega)]
      exact List.any_eq_true.2 ⟨p, hp, (e p hp).2 h⟩
theorem des_mem {par : List (List Int)} (i n j : Nat) : (j : Int) ∈ dsnL par i n ↔ j < n ∧ i < j ∧ des par i j := by
  rw [dsnL_mem]
  unfold des
  constructor
  · rintro ⟨h1, h2, h3⟩
    exact ⟨h1, h2, by rwa [dscF_ext par i j (j + 1) n (Nat.lt_succ_self _) h1]⟩
  · rintro ⟨h1, h2, h3⟩
    exact ⟨h1, h2, by rwa [dscF_ext par i j n (j + 1) h1 (Nat.lt_succ_self _)]⟩
end Go.Proofs.YtpfemholpigdeaaDoor
namespace Go.Proofs.YtpfemholpigdeaaDoor
open Go.RowKit
theorem chkI_in {s : Stem} {i : Int} (hc : stCheck s = 0) (h0 : 0 ≤ i) (h1 : i < s.names.length) : chkI s i = 0 := by
  unfold chkI
  rw [if_neg (by omega), if_neg (by omega)]
-- Descendants, told for a node that there is.
set_option maxRecDepth 100000 in
set_option maxHeartbeats 4000000 in
theorem DescN_sat (v : Value) (s : Stem) (i : Int) (w : World) (h : Stm w v s) (hc : stCheck s = 0) (h0 : 0 ≤ i) (h1 : i < s.names.length) :
    Sat Tryd.prog 18 [v, .int .i64 i] w (fun u L => ∃ a n c, n = (dsnL s.par i.toNat s.names.length).length ∧ u = .tuple #[.slice a n c, .int .i64 0] ∧ (0 < n → ∃ g, a = some ⟨g, 0, none⟩) ∧ L = [.row 3 1 (.slice a n c) n (ints (dsnL s.par i.toNat s.names.length))]) :=
  (Desc_sat v s i w h).mono fun u L hR => by
    have hl := stCheck_len s hc
    rcases hR with ⟨h2, _⟩ | ⟨_, a, n, c, h2, h3, h4, h5⟩
    · exact absurd (chkI_in hc h0 h1) h2
    · rw [hl.2.2.2.1] at h2 h5
      exact ⟨a, n, c, h2, h3, h4, h5⟩
end Go.Proofs.YtpfemholpigdeaaDoor
