/-
  Part 21 of the proof: Pn36. No statement of the seat is proved here.
-/
import Derived.Test.YtdigdmnnjbndlaaGreatDoorMHTx3620
namespace Go.Proofs.YtdigdmnnjbndlaaGreatDoor
open Go.RowKit
theorem leafNm_size {x : ByteArray} (h : leafNm x = true) : x.size ≤ 16 := by
  unfold leafNm at h
  cases hs : starB x with
  | true => rw [hs] at h; simp only [if_true, Bool.and_eq_true, decide_eq_true_eq] at h; exact h.1
  | false =>
    rw [hs] at h
    unfold isNm at h
    simp at h
    exact h.2.1
theorem jn_len : ∀ ws : List ByteArray, (∀ x ∈ ws, x.size ≤ 16) → (jn ws).length ≤ 17 * ws.length
  | [], _ => by simp [jn, Lib.join_nil]
  | [x], h => by
    rw [jn_one]
    have := h x List.mem_cons_self
    have e : x.data.toList.length = x.size := Array.length_toList
    simp only [List.length_singleton]
    omega
  | x :: y :: r, h => by
    rw [jn_cons, List.length_append, List.length_cons]
    have ih := jn_len (y :: r) fun z hz => h z (List.mem_cons_of_mem _ hz)
    have := h x List.mem_cons_self
    have e : x.data.toList.length = x.size := Array.length_toList
    simp only [List.length_cons] at *
    omega
theorem lnP_size {s : Stem} (hc : stCheck s = 0) (i : Nat) (hi : i < s.names.length) : (∀ x ∈ lnP s i, x.size ≤ 16) ∧ (lnP s i).length ≤ 67 := by
  obtain ⟨hn0, hn64, hel, hpl, _⟩ := stCheck_len s hc
  have hok := stCheck_okPar s hc
  have hn : ∀ k, k < s.names.length → (s.names.getD k ByteArray.empty).size ≤ 16 := fun k hk => by
    have := (stCheck_nm s hc k hk).1
    rw [getD_lt _ _ _ hk]; exact leafNm_size this
  constructor
  · intro x hx
    unfold lnP at hx
    rcases List.mem_cons.1 hx with h | h
    · subst h; exact hn i hi
    rcases List.mem_cons.1 h with h | h
    · split at h
      · subst h; decide
      · subst h; decide
    rcases List.mem_append.1 h with h | h
    · split at h
      · cases h
      · rw [List.mem_singleton] at h; subst h; decide
    · obtain ⟨p, hp, rfl⟩ := List.mem_map.1 h
      have := okPar_getD hok i p hp
      exact hn p.toNat (by omega)
  · have hl := asc_len (s.par.getD i []) (stCheck_inc s hc i (by omega)) 64 (fun x hx => by
      have := okPar_getD hok i x hx
      omega)
    unfold lnP
    simp only [List.length_cons, List.length_append, List.length_map]
    split
    · simp only [List.length_nil];omega
    · simp only [List.length_singleton];omega
theorem prK_len {s : Stem} (hc : stCheck s = 0) : ∀ k, k ≤ s.names.length → (prK s k).length ≤ 2000 * k
  | 0, _ => by simp [prK]
  | k + 1, h => by
    have ih := prK_len hc k (by omega)
    obtain ⟨h1, h2⟩ := lnP_size hc k (by omega)
    have := jn_len _ h1
    rw [prK_step, List.length_append, lnT, List.length_append, List.length_singleton]
    omega
def lnQ (s : Stem) (i j : Nat) : List ByteArray :=
  s.names.getD i ByteArray.empty :: (if s.ext.getD i false = true then w36e else w36l) :: ((if (s.par.getD i []).length = 0 then [] else [w36f]) ++ ((s.par.getD i []).take j).map fun p => s.names.getD p.toNat ByteArray.empty)
theorem lnQ_end (s : Stem) (i : Nat) : lnQ s i (s.par.getD i []).length = lnP s i := by
  unfold lnQ lnP
  rw [List.take_length]
theorem lnQ_step (s : Stem) (i j : Nat) (hj : j < (s.par.getD i []).length) : lnQ s i (j + 1) = lnQ s i j ++ [s.names.getD ((s.par.getD i []).getD j 0).toNat ByteArray.empty] := by
  unfold lnQ
  rw [List.take_succ_eq_append_getElem hj, List.map_append, getD_lt _ _ _ hj]
  simp
theorem lnQ_len (s : Stem) (i j : Nat) (hj : j ≤ (s.par.getD i []).length) : (lnQ s i j).length ≤ 3 + j := by
  unfold lnQ
  simp only [List.length_cons, List.length_append, List.length_map, List.length_take]
  split
  · simp only [List.length_nil];omega
  · simp only [List.length_singleton];omega
def prV (s : Stem) : Value := .tuple #[.string (if prE s = 0 then bOf (prT s) else ByteArray.empty), .int .i64 (prE s)]
set_option maxRecDepth 100000 in
set_option maxHeartbeats 4000000 in
theorem Print_sat (v : Value) (s : Stem) (w : World) (h : Stm w v s) : SatV Tryz.prog 20 [v] w (prV s) := by
  have hst := h
  obtain ⟨nv, ev, pv, rfl, hN, hE, hP⟩ := h
  have hns := hN.sl
  have hnb := hns.bound
  have hes := hE.sl
  obtain ⟨fv, hpv, hrow⟩ := hP.rows
  have hpb := hpv.bound
  by_cases hc : stCheck s = 0
  rotate_left
  · have he : prE s = 1 := if_pos hc
    refine SatL.of 67 [2, 3] Tryz.func20 (by kernel_rfl) (by kernel_rfl) rfl rfl rfl rfl ?_
    repeat' (first|(apply OK_seq)|(apply thenQ_n)|(apply OK_region)|(apply OKx_gc 23;exact rfl; refine OKx_callV (f := 23) rfl rfl rfl (fun w1 hp => stCheck_sat _ s w1 (hst.below hp.below)) ?_)|(apply OKx_nilK)|(apply OK_block)|(apply blockQ_n)|(apply blockQ_s)|(apply thenQ_e)|(apply blockQ_e;exact rfl)|(apply thenQ_r)|(apply blockQ_r)|(apply OK_condT;exact rfl)|(apply OK_condF;exact rfl)|(apply OK_skip)|(apply OK_exit)|(apply OK_ret)|(apply OKx_move;(conv=>lhs;whnf)<;>exact rfl)|(apply OKx_assign;(conv=>lhs;whnf)<;>exact rfl)|(apply OKx_ldB;exact rfl;(first | exact at0|exact at1|exact at2|exact at3|exact at4|exact at5|exact at6|exact at7);exact rfl)|(apply OKx_ldR;(conv=>lhs;whnf)<;>exact rfl;(with_reducible assumption))|(apply OKx_ldI;exact rfl;(first | exact at0|exact at1|exact at2|exact at3|exact at4|exact at5|exact at6|exact at7);omega)|(apply OKx_len;exact rfl)|(apply OKx_lenR;(conv=>lhs;whnf)<;>exact rfl;(with_reducible assumption))|(apply OKx_lenR2;(conv=>lhs;whnf)<;>exact rfl;(with_reducible assumption))|(apply OKx_lenO;(conv=>lhs;whnf)<;>exact rfl;(first | exact at0|exact at1|exact at2|exact at3|exact at4|exact at5|exact at6|exact at7))|(apply OKx_lss;exact rfl;exact rfl;all_goals (intro _; try (exfalso;omega)))|(apply OKx_gtr;exact rfl;exact rfl;all_goals (intro _; try (exfalso;omega)))|(apply OKx_neq;exact rfl;exact rfl;all_goals (intro _; try (exfalso;omega)))|(apply OKx_idxO;exact rfl;exact rfl;omega)|(apply OKx_idxR;(conv=>lhs;whnf)<;>exact rfl;(with_reducible assumption);exact rfl;omega;intro _ _)|(apply OKx_idxOz;exact rfl;exact rfl;omega;omega)|(apply OKx_idxRz;(conv=>lhs;whnf)<;>exact rfl;(with_reducible assumption);exact rfl;omega;omega;intro _ _)|(apply OKx_fldO;exact rfl;exact rfl)|(apply OKx_fldR;(conv=>lhs;whnf)<;>exact rfl;(with_reducible assumption); decide;intro _ _)|(apply OKx_inc;exact rfl;exact rfl;omega)|(apply OKx_addN;exact rfl;exact rfl;omega)|(apply OKx_add;exact rfl;exact rfl;omega;omega)|(apply OKx_boxA;exact rfl;intro _)|(apply OKx_allocA;intro _)|(apply OKx_ldBA;exact rfl;(first | exact at0|exact at1|exact at2|exact at3|exact at4|exact at5|exact at6|exact at7);exact rfl)|(apply OKx_ldRA;(conv=>lhs;whnf)<;>exact rfl;(with_reducible assumption))|(apply OKx_stB;exact rfl;(conv=>lhs;whnf)<;>exact rfl;exact rfl;exact rfl;(first | exact at0|exact at1|exact at2|exact at3|exact at4|exact at5|exact at6|exact at7);exact rfl;exact rfl;exact rfl)|(apply OKx_ldBo;exact rfl;(first | exact at0|exact at1|exact at2|exact at3|exact at4|exact at5|exact at6|exact at7);omega)|(apply OKx_slit1;(conv=>lhs;whnf)<;>exact rfl;exact rfl;intro _)|(apply OKx_slit2;(conv=>lhs;whnf)<;>exact rfl;(conv=>lhs;whnf)<;>exact rfl;exact rfl;exact rfl;intro _))
    refine bodyQ_r2 (by ((conv=>lhs;whnf)<;>exact rfl)) (by ((conv=>lhs;whnf)<;>exact rfl)) ?_
    exact ⟨_, Ent.nil, by unfold prV; rw [he]; rfl, rfl⟩
  obtain ⟨hn0, hn64, hel, hpl, _⟩ := stCheck_len s hc
  have hok := stCheck_okPar s hc
  refine SatL.of 67 [2, 3] Tryz.func20 (by kernel_rfl) (by kernel_rfl) rfl rfl rfl rfl ?_
  repeat' (first|(apply OK_seq)|(apply thenQ_n)|(apply OK_region)|(apply OKx_gc 23;exact rfl; refine OKx_callV (f := 23) (v := .int .i64 0) rfl rfl rfl (fun w1 hp => by rw [← hc]; exact stCheck_sat _ s w1 (hst.below hp.below)) ?_)|(apply OKx_nilK)|(apply OK_block)|(apply blockQ_n)|(apply blockQ_s)|(apply thenQ_e)|(apply blockQ_e;exact rfl)|(apply thenQ_r)|(apply blockQ_r)|(apply OK_condT;exact rfl)|(apply OK_condF;exact rfl)|(apply OK_skip)|(apply OK_exit)|(apply OK_ret)|(apply OKx_move;(conv=>lhs;whnf)<;>exact rfl)|(apply OKx_assign;(conv=>lhs;whnf)<;>exact rfl)|(apply OKx_ldB;exact rfl;(first | exact at0|exact at1|exact at2|exact at3|exact at4|exact at5|exact at6|exact at7);exact rfl)|(apply OKx_ldR;(conv=>lhs;whnf)<;>exact rfl;(with_reducible assumption))|(apply OKx_ldI;exact rfl;(first | exact at0|exact at1|exact at2|exact at3|exact at4|exact at5|exact at6|exact at7);omega)|(apply OKx_len;exact rfl)|(apply OKx_lenR;(conv=>lhs;whnf)<;>exact rfl;(with_reducible assumption))|(apply OKx_lenR2;(conv=>lhs;whnf)<;>exact rfl;(with_reducible assumption))|(apply OKx_lenO;(conv=>lhs;whnf)<;>exact rfl;(first | exact at0|exact at1|exact at2|exact at3|exact at4|exact at5|exact at6|exact at7))|(apply OKx_lss;exact rfl;exact rfl;all_goals (intro _; try (exfalso;omega)))|(apply OKx_gtr;exact rfl;exact rfl;all_goals (intro _; try (exfalso;omega)))|(apply OKx_neq;exact rfl;exact rfl;all_goals (intro _; try (exfalso;omega)))|(apply OKx_idxO;exact rfl;exact rfl;omega)|(apply OKx_idxR;(conv=>lhs;whnf)<;>exact rfl;(with_reducible assumption);exact rfl;omega;intro _ _)|(apply OKx_idxOz;exact rfl;exact rfl;omega;omega)|(apply OKx_idxRz;(conv=>lhs;whnf)<;>exact rfl;(with_reducible assumption);exact rfl;omega;omega;intro _ _)|(apply OKx_fldO;exact rfl;exact rfl)|(apply OKx_fldR;(conv=>lhs;whnf)<;>exact rfl;(with_reducible assumption); decide;intro _ _)|(apply OKx_inc;exact rfl;exact rfl;omega)|(apply OKx_addN;exact rfl;exact rfl;omega)|(apply OKx_add;exact rfl;exact rfl;omega;omega)|(apply OKx_boxA;exact rfl;intro _)|(apply OKx_allocA;intro _)|(apply OKx_ldBA;exact rfl;(first | exact at0|exact at1|exact at2|exact at3|exact at4|exact at5|exact at6|exact at7);exact rfl)|(apply OKx_ldRA;(conv=>lhs;whnf)<;>exact rfl;(with_reducible assumption))|(apply OKx_stB;exact rfl;(conv=>lhs;whnf)<;>exact rfl;exact rfl;exact rfl;(first | exact at0|exact at1|exact at2|exact at3|exact at4|exact at5|exact at6|exact at7);exact rfl;exact rfl;exact rfl)|(apply OKx_ldBo;exact rfl;(first | exact at0|exact at1|exact at2|exact at3|exact at4|exact at5|exact at6|exact at7);omega)|(apply OKx_slit1;(conv=>lhs;whnf)<;>exact rfl;exact rfl;intro _)|(apply OKx_slit2;(conv=>lhs;whnf)<;>exact rfl;(conv=>lhs;whnf)<;>exact rfl;exact rfl;exact rfl;intro _))
  rename_i g1 _ gb
  refine OK_loop1 16 [5, 6, 7, 9, 16, 17, 18, 19, 20, 21, 22, 23, 24, 25, 26, 27, 28, 29, 30, 31, 32, 33, 34, 35, 36, 37, 38, 39, 40, 41, 42, 43, 44, 45, 46, 47, 48, 49, 50, 51, 52, 53, 54, 55, 56, 57, 58, 59, 60, 61, 62, 63] (fun m v L => ∃ (k : Nat) (p bv : Value), k + m = s.names.length ∧ v = .int .i64 (k : Int) ∧ bldP gb p ∧ L = bldL gb p bv (prK s k) ++ [.box 34 g1 [nv, ev, pv]]) s.names.length _ (Ent.mk fun w1 hp => (Ent.pick [1, 0, 2] rfl).use w1 (hp.nil 5 1)) ⟨0, _, _, by omega, rfl, .inl rfl, rfl⟩ ?_
  rintro m v L G ⟨k, p, bv, hm, rfl, hbp, rfl⟩
  simp only [bldL, List.cons_append, List.nil_append]
  have hpk := prK_len hc k (by omega)
  by_cases hk : k < s.names.length
  rotate_left
  · obtain rfl : k = s.names.length := by omega
    have hpt : prK s s.names.length = prT s := rfl
    rw [hpt] at *
    by_cases hbig : 65536 < (prT s).length
    · have he : prE s = 4 := by unfold prE; rw [if_neg (by omega), if_pos hbig]
      repeat' (first|(apply OK_seq)|(apply thenQ_n)|(apply OK_region)|(apply OKx_gc 61;exact rfl; refine OKx_callL (f := 61) rfl rfl (bldLen_sat gb p bv (prT s) _ [.box 34 g1 [nv, ev, pv]] hbp) ?_; rintro _ _ ⟨rfl, rfl⟩)|(apply OKx_nilK)|(apply OK_block)|(apply blockQ_n)|(apply blockQ_s)|(apply thenQ_e)|(apply blockQ_e;exact rfl)|(apply thenQ_r)|(apply blockQ_r)|(apply OK_condT;exact rfl)|(apply OK_condF;exact rfl)|(apply OK_skip)|(apply OK_exit)|(apply OK_ret)|(apply OKx_move;(conv=>lhs;whnf)<;>exact rfl)|(apply OKx_assign;(conv=>lhs;whnf)<;>exact rfl)|(apply OKx_ldB;exact rfl;(first | exact at0|exact at1|exact at2|exact at3|exact at4|exact at5|exact at6|exact at7);exact rfl)|(apply OKx_ldR;(conv=>lhs;whnf)<;>exact rfl;(with_reducible assumption))|(apply OKx_ldI;exact rfl;(first | exact at0|exact at1|exact at2|exact at3|exact at4|exact at5|exact at6|exact at7);omega)|(apply OKx_len;exact rfl)|(apply OKx_lenR;(conv=>lhs;whnf)<;>exact rfl;(with_reducible assumption))|(apply OKx_lenR2;(conv=>lhs;whnf)<;>exact rfl;(with_reducible assumption))|(apply OKx_lenO;(conv=>lhs;whnf)<;>exact rfl;(first | exact at0|exact at1|exact at2|exact at3|exact at4|exact at5|exact at6|exact at7))|(apply OKx_lss;exact rfl;exact rfl;all_goals (intro _; try (exfalso;omega)))|(apply OKx_gtr;exact rfl;exact rfl;all_goals (intro _; try (exfalso;omega)))|(apply OKx_neq;exact rfl;exact rfl;all_goals (intro _; try (exfalso;omega)))|(apply OKx_idxO;exact rfl;exact rfl;omega)|(apply OKx_idxR;(conv=>lhs;whnf)<;>exact rfl;(with_reducible assumption);exact rfl;omega;intro _ _)|(apply OKx_idxOz;exact rfl;exact rfl;omega;omega)|(apply OKx_idxRz;(conv=>lhs;whnf)<;>exact rfl;(with_reducible assumption);exact rfl;omega;omega;intro _ _)|(apply OKx_fldO;exact rfl;exact rfl)|(apply OKx_fldR;(conv=>lhs;whnf)<;>exact rfl;(with_reducible assumption); decide;intro _ _)|(apply OKx_inc;exact rfl;exact rfl;omega)|(apply OKx_addN;exact rfl;exact rfl;omega)|(apply OKx_add;exact rfl;exact rfl;omega;omega)|(apply OKx_boxA;exact rfl;intro _)|(apply OKx_allocA;intro _)|(apply OKx_ldBA;exact rfl;(first | exact at0|exact at1|exact at2|exact at3|exact at4|exact at5|exact at6|exact at7);exact rfl)|(apply OKx_ldRA;(conv=>lhs;whnf)<;>exact rfl;(with_reducible assumption))|(apply OKx_stB;exact rfl;(conv=>lhs;whnf)<;>exact rfl;exact rfl;exact rfl;(first | exact at0|exact at1|exact at2|exact at3|exact at4|exact at5|exact at6|exact at7);exact rfl;exact rfl;exact rfl)|(apply OKx_ldBo;exact rfl;(first | exact at0|exact at1|exact at2|exact at3|exact at4|exact at5|exact at6|exact at7);omega)|(apply OKx_slit1;(conv=>lhs;whnf)<;>exact rfl;exact rfl;intro _)|(apply OKx_slit2;(conv=>lhs;whnf)<;>exact rfl;(conv=>lhs;whnf)<;>exact rfl;exact rfl;exact rfl;intro _))
      refine bodyQ_r2 (by ((conv=>lhs;whnf)<;>exact rfl)) (by ((conv=>lhs;whnf)<;>exact rfl)) ?_
      exact ⟨_, Ent.nil, by unfold prV; rw [he]; rfl, rfl⟩
    · have he : prE s = 0 := by unfold prE; rw [if_neg (by omega), if_neg hbig]
      repeat' (first|(apply OK_seq)|(apply thenQ_n)|(apply OK_region)|(apply OKx_gc 61;exact rfl; refine OKx_callL (f := 61) rfl rfl (bldLen_sat gb p bv (prT s) _ [.box 34 g1 [nv, ev, pv]] hbp) ?_; rintro _ _ ⟨rfl, rfl⟩)|(apply OKx_gc 62;exact rfl; refine OKx_callL (f := 62) rfl rfl (bldStr_sat gb p bv (prT s) _ [.box 34 g1 [nv, ev, pv]] hbp) ?_; rintro _ _ ⟨rfl, rfl⟩)|(apply OKx_nilK)|(apply OK_block)|(apply blockQ_n)|(apply blockQ_s)|(apply thenQ_e)|(apply blockQ_e;exact rfl)|(apply thenQ_r)|(apply blockQ_r)|(apply OK_condT;exact rfl)|(apply OK_condF;exact rfl)|(apply OK_skip)|(apply OK_exit)|(apply OK_ret)|(apply OKx_move;(conv=>lhs;whnf)<;>exact rfl)|(apply OKx_assign;(conv=>lhs;whnf)<;>exact rfl)|(apply OKx_ldB;exact rfl;(first | exact at0|exact at1|exact at2|exact at3|exact at4|exact at5|exact at6|exact at7);exact rfl)|(apply OKx_ldR;(conv=>lhs;whnf)<;>exact rfl;(with_reducible assumption))|(apply OKx_ldI;exact rfl;(first | exact at0|exact at1|exact at2|exact at3|exact at4|exact at5|exact at6|exact at7);omega)|(apply OKx_len;exact rfl)|(apply OKx_lenR;(conv=>lhs;whnf)<;>exact rfl;(with_reducible assumption))|(apply OKx_lenR2;(conv=>lhs;whnf)<;>exact rfl;(with_reducible assumption))|(apply OKx_lenO;(conv=>lhs;whnf)<;>exact rfl;(first | exact at0|exact at1|exact at2|exact at3|exact at4|exact at5|exact at6|exact at7))|(apply OKx_lss;exact rfl;exact rfl;all_goals (intro _; try (exfalso;omega)))|(apply OKx_gtr;exact rfl;exact rfl;all_goals (intro _; try (exfalso;omega)))|(apply OKx_neq;exact rfl;exact rfl;all_goals (intro _; try (exfalso;omega)))|(apply OKx_idxO;exact rfl;exact rfl;omega)|(apply OKx_idxR;(conv=>lhs;whnf)<;>exact rfl;(with_reducible assumption);exact rfl;omega;intro _ _)|(apply OKx_idxOz;exact rfl;exact rfl;omega;omega)|(apply OKx_idxRz;(conv=>lhs;whnf)<;>exact rfl;(with_reducible assumption);exact rfl;omega;omega;intro _ _)|(apply OKx_fldO;exact rfl;exact rfl)|(apply OKx_fldR;(conv=>lhs;whnf)<;>exact rfl;(with_reducible assumption); decide;intro _ _)|(apply OKx_inc;exact rfl;exact rfl;omega)|(apply OKx_addN;exact rfl;exact rfl;omega)|(apply OKx_add;exact rfl;exact rfl;omega;omega)|(apply OKx_boxA;exact rfl;intro _)|(apply OKx_allocA;intro _)|(apply OKx_ldBA;exact rfl;(first | exact at0|exact at1|exact at2|exact at3|exact at4|exact at5|exact at6|exact at7);exact rfl)|(apply OKx_ldRA;(conv=>lhs;whnf)<;>exact rfl;(with_reducible assumption))|(apply OKx_stB;exact rfl;(conv=>lhs;whnf)<;>exact rfl;exact rfl;exact rfl;(first | exact at0|exact at1|exact at2|exact at3|exact at4|exact at5|exact at6|exact at7);exact rfl;exact rfl;exact rfl)|(apply OKx_ldBo;exact rfl;(first | exact at0|exact at1|exact at2|exact at3|exact at4|exact at5|exact at6|exact at7);omega)|(apply OKx_slit1;(conv=>lhs;whnf)<;>exact rfl;exact rfl;intro _)|(apply OKx_slit2;(conv=>lhs;whnf)<;>exact rfl;(conv=>lhs;whnf)<;>exact rfl;exact rfl;exact rfl;intro _))
      refine bodyQ_r2 (by ((conv=>lhs;whnf)<;>exact rfl)) (by ((conv=>lhs;whnf)<;>exact rfl)) ?_
      exact ⟨_, Ent.nil, by unfold prV; rw [he, if_pos rfl], rfl⟩
  have hxk := (hrow k).sl
  have hpm := okPar_getD hok k
  obtain ⟨hls1, hls2⟩ := lnP_size hc k hk
  have hjl := jn_len _ hls1
  have hplen : (s.par.getD k []).length ≤ 67 := by
    have := lnQ_end s k
    have h2 : (lnP s k).length ≤ 67 := hls2
    unfold lnP at h2
    simp only [List.length_cons, List.length_append, List.length_map] at h2
    omega
  cases hx : s.ext.getD k false <;> by_cases hz : (s.par.getD k []).length = 0
  all_goals
    have hq0 : lnQ s k 0 = s.names.getD k ByteArray.empty :: (if s.ext.getD k false = true then w36e else w36l) :: ((if (s.par.getD k []).length = 0 then [] else [w36f]) ++ []) := by unfold lnQ; rw [List.take_zero]; rfl
    rw [hx] at hq0
    simp only [hz, if_true, if_false, List.append_nil, Bool.false_eq_true] at hq0
  all_goals repeat' (first|(apply OK_seq)|(apply thenQ_n)|(apply OK_region)|(apply OKx_gl; apply OKx_ldR;(conv=>lhs;whnf)<;>exact rfl;(with_reducible assumption); rw [hx])|(apply OKx_gs; refine OKx_stW 0 rfl rfl rfl rfl rfl (by omega) rfl rfl ?_)|(apply OKx_gb; refine OKx_append1 1 0 rfl rfl rfl rfl rfl (by omega) (by omega) ?_; intro g8 c8)|(apply OKx_nilK)|(apply OK_block)|(apply blockQ_n)|(apply blockQ_s)|(apply thenQ_e)|(apply blockQ_e;exact rfl)|(apply thenQ_r)|(apply blockQ_r)|(apply OK_condT;exact rfl)|(apply OK_condF;exact rfl)|(apply OK_skip)|(apply OK_exit)|(apply OK_ret)|(apply OKx_move;(conv=>lhs;whnf)<;>exact rfl)|(apply OKx_assign;(conv=>lhs;whnf)<;>exact rfl)|(apply OKx_ldB;exact rfl;(first | exact at0|exact at1|exact at2|exact at3|exact at4|exact at5|exact at6|exact at7);exact rfl)|(apply OKx_ldR;(conv=>lhs;whnf)<;>exact rfl;(with_reducible assumption))|(apply OKx_ldI;exact rfl;(first | exact at0|exact at1|exact at2|exact at3|exact at4|exact at5|exact at6|exact at7);omega)|(apply OKx_len;exact rfl)|(apply OKx_lenR;(conv=>lhs;whnf)<;>exact rfl;(with_reducible assumption))|(apply OKx_lenR2;(conv=>lhs;whnf)<;>exact rfl;(with_reducible assumption))|(apply OKx_lenO;(conv=>lhs;whnf)<;>exact rfl;(first | exact at0|exact at1|exact at2|exact at3|exact at4|exact at5|exact at6|exact at7))|(apply OKx_lss;exact rfl;exact rfl;all_goals (intro _; try (exfalso;omega)))|(apply OKx_gtr;exact rfl;exact rfl;all_goals (intro _; try (exfalso;omega)))|(apply OKx_neq;exact rfl;exact rfl;all_goals (intro _; try (exfalso;omega)))|(apply OKx_idxO;exact rfl;exact rfl;omega)|(apply OKx_idxR;(conv=>lhs;whnf)<;>exact rfl;(with_reducible assumption);exact rfl;omega;intro _ _)|(apply OKx_idxOz;exact rfl;exact rfl;omega;omega)|(apply OKx_idxRz;(conv=>lhs;whnf)<;>exact rfl;(with_reducible assumption);exact rfl;omega;omega;intro _ _)|(apply OKx_fldO;exact rfl;exact rfl)|(apply OKx_fldR;(conv=>lhs;whnf)<;>exact rfl;(with_reducible assumption); decide;intro _ _)|(apply OKx_inc;exact rfl;exact rfl;omega)|(apply OKx_addN;exact rfl;exact rfl;omega)|(apply OKx_add;exact rfl;exact rfl;omega;omega)|(apply OKx_boxA;exact rfl;intro _)|(apply OKx_allocA;intro _)|(apply OKx_ldBA;exact rfl;(first | exact at0|exact at1|exact at2|exact at3|exact at4|exact at5|exact at6|exact at7);exact rfl)|(apply OKx_ldRA;(conv=>lhs;whnf)<;>exact rfl;(with_reducible assumption))|(apply OKx_stB;exact rfl;(conv=>lhs;whnf)<;>exact rfl;exact rfl;exact rfl;(first | exact at0|exact at1|exact at2|exact at3|exact at4|exact at5|exact at6|exact at7);exact rfl;exact rfl;exact rfl)|(apply OKx_ldBo;exact rfl;(first | exact at0|exact at1|exact at2|exact at3|exact at4|exact at5|exact at6|exact at7);omega)|(apply OKx_slit1;(conv=>lhs;whnf)<;>exact rfl;exact rfl;intro _)|(apply OKx_slit2;(conv=>lhs;whnf)<;>exact rfl;(conv=>lhs;whnf)<;>exact rfl;exact rfl;exact rfl;intro _))
  all_goals
    first
      | refine OK_loop2 7 46 [7, 9, 46, 47, 48, 49, 50, 51, 52, 53, 54, 55, 56, 57, 58] (fun m u v L => ∃ (j n g c : Nat), j + m = (s.par.getD k []).length ∧ n = (lnQ s k j).length ∧ u = .slice (some ⟨g, 0, none⟩) n c ∧ v = .int .i64 (j : Int) ∧ L = [.row 9 1 (.slice (some ⟨g, 0, none⟩) n c) n (strs (lnQ s k j)), .box 100 gb [p, bv], .row 5 1 bv (prK s k).length (Lib.byteCells (prK s k)), .box 34 g1 [nv, ev, pv]]) (s.par.getD k []).length _ (Ent.refl _ _) ⟨0, _, _, _, by omega, rfl, by rw [hq0]; rfl, rfl, by rw [hq0]; rfl⟩ ?_
      | refine OK_loop2 7 46 [7, 9, 46, 47, 48, 49, 50, 51, 52, 53, 54, 55, 56, 57, 58] (fun m u v L => ∃ (j n g c : Nat), j + m = (s.par.getD k []).length ∧ n = (lnQ s k j).length ∧ u = .slice (some ⟨g, 0, none⟩) n c ∧ v = .int .i64 (j : Int) ∧ L = [.row 9 1 (.slice (some ⟨g, 0, none⟩) n c) n (strs (lnQ s k j)), .box 100 gb [p, bv], .row 5 1 bv (prK s k).length (Lib.byteCells (prK s k)), .box 34 g1 [nv, ev, pv]]) (s.par.getD k []).length _ (Ent.sub (List.sublist_cons_self _ _)) ⟨0, _, _, _, by omega, rfl, by rw [hq0]; rfl, rfl, by rw [hq0]; rfl⟩ ?_
    rintro m2 u v L G2 ⟨j, n, g, c, hm2, hn, rfl, rfl, rfl⟩
    have hql := lnQ_len s k j (by omega)
    by_cases hj : j < (s.par.getD k []).length
    · first
        | (exfalso;omega)
        | (have hst := lnQ_step s k j hj
           have hpj := hpm ((s.par.getD k []).getD j 0) (by rw [getD_lt _ _ _ hj]; exact List.getElem_mem hj)
           generalize hys : lnQ s k j = ys at *
           repeat' (first|(apply OK_seq)|(apply thenQ_n)|(apply OK_region)|(apply OKx_gb; refine OKx_append1 1 0 rfl rfl rfl rfl rfl (by omega) (by omega) ?_; intro g8 c8)|(apply OKx_nilK)|(apply OK_block)|(apply blockQ_n)|(apply blockQ_s)|(apply thenQ_e)|(apply blockQ_e;exact rfl)|(apply thenQ_r)|(apply blockQ_r)|(apply OK_condT;exact rfl)|(apply OK_condF;exact rfl)|(apply OK_skip)|(apply OK_exit)|(apply OK_ret)|(apply OKx_move;(conv=>lhs;whnf)<;>exact rfl)|(apply OKx_assign;(conv=>lhs;whnf)<;>exact rfl)|(apply OKx_ldB;exact rfl;(first | exact at0|exact at1|exact at2|exact at3|exact at4|exact at5|exact at6|exact at7);exact rfl)|(apply OKx_ldR;(conv=>lhs;whnf)<;>exact rfl;(with_reducible assumption))|(apply OKx_ldI;exact rfl;(first | exact at0|exact at1|exact at2|exact at3|exact at4|exact at5|exact at6|exact at7);omega)|(apply OKx_len;exact rfl)|(apply OKx_lenR;(conv=>lhs;whnf)<;>exact rfl;(with_reducible assumption))|(apply OKx_lenR2;(conv=>lhs;whnf)<;>exact rfl;(with_reducible assumption))|(apply OKx_lenO;(conv=>lhs;whnf)<;>exact rfl;(first | exact at0|exact at1|exact at2|exact at3|exact at4|exact at5|exact at6|exact at7))|(apply OKx_lss;exact rfl;exact rfl;all_goals (intro _; try (exfalso;omega)))|(apply OKx_gtr;exact rfl;exact rfl;all_goals (intro _; try (exfalso;omega)))|(apply OKx_neq;exact rfl;exact rfl;all_goals (intro _; try (exfalso;omega)))|(apply OKx_idxO;exact rfl;exact rfl;omega)|(apply OKx_idxR;(conv=>lhs;whnf)<;>exact rfl;(with_reducible assumption);exact rfl;omega;intro _ _)|(apply OKx_idxOz;exact rfl;exact rfl;omega;omega)|(apply OKx_idxRz;(conv=>lhs;whnf)<;>exact rfl;(with_reducible assumption);exact rfl;omega;omega;intro _ _)|(apply OKx_fldO;exact rfl;exact rfl)|(apply OKx_fldR;(conv=>lhs;whnf)<;>exact rfl;(with_reducible assumption); decide;intro _ _)|(apply OKx_inc;exact rfl;exact rfl;omega)|(apply OKx_addN;exact rfl;exact rfl;omega)|(apply OKx_add;exact rfl;exact rfl;omega;omega)|(apply OKx_boxA;exact rfl;intro _)|(apply OKx_allocA;intro _)|(apply OKx_ldBA;exact rfl;(first | exact at0|exact at1|exact at2|exact at3|exact at4|exact at5|exact at6|exact at7);exact rfl)|(apply OKx_ldRA;(conv=>lhs;whnf)<;>exact rfl;(with_reducible assumption))|(apply OKx_stB;exact rfl;(conv=>lhs;whnf)<;>exact rfl;exact rfl;exact rfl;(first | exact at0|exact at1|exact at2|exact at3|exact at4|exact at5|exact at6|exact at7);exact rfl;exact rfl;exact rfl)|(apply OKx_ldBo;exact rfl;(first | exact at0|exact at1|exact at2|exact at3|exact at4|exact at5|exact at6|exact at7);omega)|(apply OKx_slit1;(conv=>lhs;whnf)<;>exact rfl;exact rfl;intro _)|(apply OKx_slit2;(conv=>lhs;whnf)<;>exact rfl;(conv=>lhs;whnf)<;>exact rfl;exact rfl;exact rfl;intro _))
           refine ⟨by (repeat' (first | refine agree_upd rfl ?_ | exact agree_over | exact agree_refl _ _ | refine agree_over2 rfl ?_)), m2 - 1, _, by omega, Ent.sub (List.sublist_cons_self _ _), ?_⟩
           exact ⟨j + 1, n + 1, g8, c8, by omega, by rw [hst, List.length_append, hn]; rfl, rfl, rfl, by rw [hst]; simp [strs]⟩)
    · obtain rfl : j = (s.par.getD k []).length := by omega
      rw [lnQ_end] at *
      have hps := prK_step s k
      have hszj : (bOf (jn (lnP s k))).size = (jn (lnP s k)).length := bOf_size _
      have hsz2 : (prK s k).length + (bOf (jn (lnP s k)) ++ (⟨#[10]⟩ : ByteArray)).size ≤ 140737488355328 := by
        rw [ByteArray.size_append, hszj]
        have e1 : (⟨#[10]⟩ : ByteArray).size = 1 := rfl
        omega
      have hadd : (bOf (jn (lnP s k)) ++ (⟨#[10]⟩ : ByteArray)).data.toList = lnT (lnP s k) := by rw [ByteArray.data_append, Array.toList_append]; rfl
      repeat' (first|(apply OK_seq)|(apply thenQ_n)|(apply OK_region)|(apply OKx_gc 60;exact rfl; refine OKx_callV (f := 60) (v := .string (bOf (jn (lnP s k)))) rfl rfl rfl (fun w1 hp => join_sat _ (lnP s k) w1 (hp.strs 0 rfl (by omega) (fun x hx => by have := hls1 x hx;omega)) (show (jn (lnP s k)).length ≤ 140737488355328 by omega)) ?_)|(apply OKx_gn; refine OKx_sadd rfl rfl (show (bOf (jn (lnP s k))).size + 1 ≤ 9223372036854775807 by rw [hszj];omega) ?_)|(apply OKx_gc 59;exact rfl; refine OKx_callL (f := 59) rfl rfl ((bldW_sat gb p bv (prK s k) (bOf (jn (lnP s k)) ++ (⟨#[10]⟩ : ByteArray)) _ [.box 34 g1 [nv, ev, pv]] hbp hsz2).pre (Ent.pick [1, 2, 3] rfl)) ?_; rintro _ _ ⟨rfl, bv2, rfl⟩)|(apply OKx_nilK)|(apply OK_block)|(apply blockQ_n)|(apply blockQ_s)|(apply thenQ_e)|(apply blockQ_e;exact rfl)|(apply thenQ_r)|(apply blockQ_r)|(apply OK_condT;exact rfl)|(apply OK_condF;exact rfl)|(apply OK_skip)|(apply OK_exit)|(apply OK_ret)|(apply OKx_move;(conv=>lhs;whnf)<;>exact rfl)|(apply OKx_assign;(conv=>lhs;whnf)<;>exact rfl)|(apply OKx_ldB;exact rfl;(first | exact at0|exact at1|exact at2|exact at3|exact at4|exact at5|exact at6|exact at7);exact rfl)|(apply OKx_ldR;(conv=>lhs;whnf)<;>exact rfl;(with_reducible assumption))|(apply OKx_ldI;exact rfl;(first | exact at0|exact at1|exact at2|exact at3|exact at4|exact at5|exact at6|exact at7);omega)|(apply OKx_len;exact rfl)|(apply OKx_lenR;(conv=>lhs;whnf)<;>exact rfl;(with_reducible assumption))|(apply OKx_lenR2;(conv=>lhs;whnf)<;>exact rfl;(with_reducible assumption))|(apply OKx_lenO;(conv=>lhs;whnf)<;>exact rfl;(first | exact at0|exact at1|exact at2|exact at3|exact at4|exact at5|exact at6|exact at7))|(apply OKx_lss;exact rfl;exact rfl;all_goals (intro _; try (exfalso;omega)))|(apply OKx_gtr;exact rfl;exact rfl;all_goals (intro _; try (exfalso;omega)))|(apply OKx_neq;exact rfl;exact rfl;all_goals (intro _; try (exfalso;omega)))|(apply OKx_idxO;exact rfl;exact rfl;omega)|(apply OKx_idxR;(conv=>lhs;whnf)<;>exact rfl;(with_reducible assumption);exact rfl;omega;intro _ _)|(apply OKx_idxOz;exact rfl;exact rfl;omega;omega)|(apply OKx_idxRz;(conv=>lhs;whnf)<;>exact rfl;(with_reducible assumption);exact rfl;omega;omega;intro _ _)|(apply OKx_fldO;exact rfl;exact rfl)|(apply OKx_fldR;(conv=>lhs;whnf)<;>exact rfl;(with_reducible assumption); decide;intro _ _)|(apply OKx_inc;exact rfl;exact rfl;omega)|(apply OKx_addN;exact rfl;exact rfl;omega)|(apply OKx_add;exact rfl;exact rfl;omega;omega)|(apply OKx_boxA;exact rfl;intro _)|(apply OKx_allocA;intro _)|(apply OKx_ldBA;exact rfl;(first | exact at0|exact at1|exact at2|exact at3|exact at4|exact at5|exact at6|exact at7);exact rfl)|(apply OKx_ldRA;(conv=>lhs;whnf)<;>exact rfl;(with_reducible assumption))|(apply OKx_stB;exact rfl;(conv=>lhs;whnf)<;>exact rfl;exact rfl;exact rfl;(first | exact at0|exact at1|exact at2|exact at3|exact at4|exact at5|exact at6|exact at7);exact rfl;exact rfl;exact rfl)|(apply OKx_ldBo;exact rfl;(first | exact at0|exact at1|exact at2|exact at3|exact at4|exact at5|exact at6|exact at7);omega)|(apply OKx_slit1;(conv=>lhs;whnf)<;>exact rfl;exact rfl;intro _)|(apply OKx_slit2;(conv=>lhs;whnf)<;>exact rfl;(conv=>lhs;whnf)<;>exact rfl;exact rfl;exact rfl;intro _))
      refine ⟨by (repeat' (first | refine agree_upd rfl ?_ | exact agree_over | exact agree_refl _ _ | refine agree_over2 rfl ?_)), m - 1, _, by omega, Ent.refl _ _, ?_⟩
      exact ⟨k + 1, _, bv2, by omega, rfl, .inr rfl, by rw [hadd, ← hps]; rfl⟩
end Go.Proofs.YtdigdmnnjbndlaaGreatDoor
