/-
  Earliest and latest years fit; no others are earlier or later. No statement of the seat is proved here.
-/
import Derived.Test.YtpbohmddbfaiiaaFits
namespace Go.Proofs.Ytpbohmddbfaiiaa
open Go.RowKit Go.Maps

theorem OKx_bneq {P : Program} {n : Nat} {w0 : World} {K : Fm → List Res → Prop} {F : Fm} {L : List Res} {m : Md} {ops : Array Oper} {rest : List Oper} {d : Option Nat} {ty : TypeId} {pos : String} {aft : Array Edge} {t ut : TypeId} {x y : Operand} {a b : Bool}
    (ht : P.underlying t = some .bool) (hx : rv n F x = .bool a) (hy : rv n F y = .bool b) (kk : OKx P n w0 m ops K rest (updo F d (.bool (!(a == b)))) L) : OKx P n w0 m ops K (⟨d, .binOp .neq t x y ut, ty, pos, aft, none⟩ :: rest) F L :=
  OKx_still (fun w _ _ _ _ _ => by
    have hg : (eqGuard .neq t x y (.bool a) (.bool b)).run P w = .ok () w := by simp [eqGuard]
    have h := run_neq_bool (P := P) (w := w) t a b ht
    simp [execOp, hx, hy, Sem.run_bind, hg, h, Result.andThen]) kk

theorem fitB_iff (s : Stem) (ds : List Dt) (ys : List Int) : fitB s ds ys = true ↔ ys.length = s.names.length ∧ (∀ i, i < s.names.length → -5000 ≤ ys.getD i 0 ∧ ys.getD i 0 ≤ 5000 ∧ ∀ p ∈ s.par.getD i [], ys.getD p.toNat 0 ≤ ys.getD i 0) ∧ ∀ d ∈ ds, d.fr ≤ ys.getD d.node.toNat 0 ∧ ys.getD d.node.toNat 0 ≤ d.to := by
  rw [fitB, Bool.and_eq_true, Bool.and_eq_true, decide_eq_true_eq, List.all_eq_true, Bool.not_eq_true', List.any_eq_false]
  constructor
  · rintro ⟨h1, h2, h3⟩
    refine ⟨h1, fun i hi => ?_, fun d hd => ?_⟩
    · have := h2 i (List.mem_range.2 hi)
      rw [Bool.not_eq_true', nodeB, Bool.or_eq_false_iff, Bool.or_eq_false_iff, decide_eq_false_iff_not, decide_eq_false_iff_not, List.any_eq_false] at this
      refine ⟨by omega, by omega, fun p hp => ?_⟩
      have := this.2.2 p hp
      rw [upB, decide_eq_true_eq] at this
      omega
    · have := h3 d hd
      rw [offB, Bool.or_eq_true, decide_eq_true_eq, decide_eq_true_eq] at this
      omega
  · rintro ⟨h1, h2, h3⟩
    refine ⟨h1, fun i hi => ?_, fun d hd => ?_⟩
    · obtain ⟨a, b, c⟩ := h2 i (List.mem_range.1 hi)
      rw [Bool.not_eq_true', nodeB, Bool.or_eq_false_iff, Bool.or_eq_false_iff, decide_eq_false_iff_not, decide_eq_false_iff_not, List.any_eq_false]
      refine ⟨by omega, by omega, fun p hp => ?_⟩
      have := c p hp
      rw [upB, decide_eq_true_eq]
      omega
    · have := h3 d hd
      rw [offB, Bool.or_eq_true, decide_eq_true_eq, decide_eq_true_eq]
      omega
theorem fit_bounds (s : Stem) (ds : List Dt) (ys : List Int) (h : dCheck s ds = 0) (hf : fitB s ds ys = true) : ∀ i, i < s.names.length → (eYrs s ds).getD i 0 ≤ ys.getD i 0 ∧ ys.getD i 0 ≤ (lYrs s ds).getD i 0 := by
  obtain ⟨h1, h2, h3⟩ := (fitB_iff s ds ys).1 hf
  obtain ⟨_, _, _, hpl, _⟩ := stCheck_len s (dCheck_zero s ds h).1
  exact fun i hi => ⟨eYrs_least s ds h (fun j => ys.getD j 0) (fun d hd => (h3 d hd).1) (fun j hj => (h2 j hj).1) (fun j hj p hp => (h2 j (by omega)).2.2 p hp) i hi,
    lYrs_most s ds h (fun j => ys.getD j 0) (fun d hd => (h3 d hd).2) (fun j hj => (h2 j hj).2.1) (fun j hj p hp => (h2 j (by omega)).2.2 p hp) i hi⟩
theorem fit_yErr (s : Stem) (ds : List Dt) (ys : List Int) (h : dCheck s ds = 0) (hf : fitB s ds ys = true) : yErr s ds = 0 :=
  yErr_of s ds h fun i hi => by have := fit_bounds s ds ys h hf i hi; omega
theorem eFit (s : Stem) (ds : List Dt) (h : yErr s ds = 0) : fitB s ds (eYrs s ds) = true := by
  have h0 := yErr_check s ds h
  obtain ⟨_, _, _, hpl, _⟩ := stCheck_len s (dCheck_zero s ds h0).1
  obtain ⟨a1, a2⟩ := dAll_in s ds h0
  refine (fitB_iff s ds _).2 ⟨eYrs_len s ds, fun i hi => ⟨(a1 i).1, (a1 i).2, fun p hp => (par_up s ds h0 i (by omega) p hp).1⟩, fun d hd => ?_⟩
  have hn := dCheck_nodes s ds h0 d hd
  have e1 := eYrs_ge s ds h0 d.node.toNat
  have e2 := lYrs_le s ds h0 d.node.toNat
  have e3 := yErr_zero s ds h d.node.toNat (by omega)
  rw [loOf_at s ds h0 d hd] at e1
  rw [hiOf_at s ds h0 d hd] at e2
  omega
theorem lFit (s : Stem) (ds : List Dt) (h : yErr s ds = 0) : fitB s ds (lYrs s ds) = true := by
  have h0 := yErr_check s ds h
  obtain ⟨_, _, _, hpl, _⟩ := stCheck_len s (dCheck_zero s ds h0).1
  obtain ⟨a1, a2⟩ := dAll_in s ds h0
  refine (fitB_iff s ds _).2 ⟨lYrs_len s ds, fun i hi => ⟨(a2 i).1, (a2 i).2, fun p hp => (par_up s ds h0 i (by omega) p hp).2.1⟩, fun d hd => ?_⟩
  have hn := dCheck_nodes s ds h0 d hd
  have e1 := eYrs_ge s ds h0 d.node.toNat
  have e2 := lYrs_le s ds h0 d.node.toNat
  have e3 := yErr_zero s ds h d.node.toNat (by omega)
  rw [loOf_at s ds h0 d hd] at e1
  rw [hiOf_at s ds h0 d hd] at e2
  omega

theorem Rch.snoc {par : List (List Int)} {p i a : Nat} (hp : p < i) (hi : i < par.length) (hm : (p : Int) ∈ par.getD i []) (h : Rch par p a) : Rch par i a := by
  induction h with
  | here => exact .up p i hp hi hm .here
  | up a k h1 h2 h3 _ ih => exact .up a k h1 h2 h3 ih
theorem leads_iff (s : Stem) (h : stCheck s = 0) (a b : Nat) (hb : b < s.names.length) : (leads s.par b).getD a false = true ↔ Rch s.par b a := by
  obtain ⟨_, _, _, hpl, _⟩ := stCheck_len s h
  exact ldA_spec s.par b (stCheck_okPar s h) (by omega) b (Nat.le_refl _) a (by omega)
theorem Rch.mono {s : Stem} {ds : List Dt} (h : dCheck s ds = 0) {a b : Nat} (hr : Rch s.par b a) : (eYrs s ds).getD a 0 ≤ (eYrs s ds).getD b 0 := by
  induction hr with
  | here => exact Int.le_refl _
  | up i k h1 h2 h3 _ ih =>
    have := (par_up s ds h k h2 _ h3).1
    rw [Int.toNat_natCast] at this
    omega
theorem e_from (s : Stem) (ds : List Dt) (h : dCheck s ds = 0) : ∀ i, i < s.names.length → ∃ a, Rch s.par i a ∧ (eYrs s ds).getD i 0 = (loOf s.names.length ds).getD a 0 := by
  have hs := (dCheck_zero s ds h).1
  obtain ⟨_, _, _, hpl, _⟩ := stCheck_len s hs
  have hok := stCheck_okPar s hs
  obtain ⟨_, _, _, h4⟩ := earl_spec s.par (loOf s.names.length ds) hok (by rw [loOf_len, hpl]) s.par.length (Nat.le_refl _)
  have he : earl s.par (loOf s.names.length ds) s.par.length = eYrs s ds := by rw [hpl]; rfl
  rw [he] at h4
  intro i
  induction i using Nat.strongRecOn with
  | ind i ih =>
    intro hi
    rcases h4 i (by omega) (by omega) with e | ⟨p, hp, e⟩
    · exact ⟨i, .here, e⟩
    · have hp0 := hok i (by omega) p hp
      obtain ⟨a, h1, h2⟩ := ih p.toNat (by omega) (by omega)
      refine ⟨a, Rch.snoc (p := p.toNat) (by omega) (by omega) ?_ h1, e.trans h2⟩
      rw [Int.toNat_of_nonneg hp0.1]
      simpa [show i < s.par.length by omega] using hp
theorem lo_hi (s : Stem) (ds : List Dt) (h : dCheck s ds = 0) (i : Nat) (hi : i < s.names.length) : (loOf s.names.length ds).getD i 0 ≤ (hiOf s.names.length ds).getD i 0 := by
  by_cases hd : ∃ d ∈ ds, d.node.toNat = i
  · obtain ⟨d, hd, rfl⟩ := hd
    rw [loOf_at s ds h d hd, hiOf_at s ds h d hd]
    obtain ⟨k, hk, rfl⟩ := List.getElem_of_mem hd
    exact ((dCheck_zero s ds h).2 k hk).2.1
  · rw [loOf, hiOf, put1_other _ _ _ (fun d hm e => hd ⟨d, hm, e⟩), put2_other _ _ _ (fun d hm e => hd ⟨d, hm, e⟩), rep_getD _ _ _ hi, rep_getD _ _ _ hi]
    decide
theorem noBad_yErr (s : Stem) (ds : List Dt) (h : dCheck s ds = 0) (hn : noBad s ds s.names.length 0) : yErr s ds = 0 := by
  have hs := (dCheck_zero s ds h).1
  obtain ⟨_, _, _, hpl, _⟩ := stCheck_len s hs
  have hc : ∀ i, i < s.names.length → (eYrs s ds).getD i 0 ≤ (hiOf s.names.length ds).getD i 0 := fun i hi => by
    obtain ⟨a, hr, e⟩ := e_from s ds h i hi
    rw [e]
    by_cases hai : a = i
    · rw [hai]; exact lo_hi s ds h i hi
    · have hle := hr.le
      have := hn a i (by omega) hi (by omega)
      rw [bad, (leads_iff s hs a i hi).2 hr, Bool.and_true, decide_eq_false_iff_not] at this
      omega
  have h1 := consB_true s.names.length (eYrs s ds) (hiOf s.names.length ds) hc
  have h2 := consB_late s.par (loOf s.names.length ds) (hiOf s.names.length ds) (stCheck_okPar s hs) (by rw [loOf_len, hpl]) (by rw [hiOf_len, hpl])
  rw [hpl] at h2
  have h3 : consB s.names.length (eYrs s ds) (lYrs s ds) = true := h2.trans h1
  unfold yErr
  rw [if_neg (by rw [h]; simp), if_pos h3]
theorem bad_yErr (s : Stem) (ds : List Dt) (h : dCheck s ds = 0) (a b : Nat) (hb : b < s.names.length) (hbad : bad s ds a b = true) : yErr s ds ≠ 0 := by
  intro hy
  have hs := (dCheck_zero s ds h).1
  rw [bad, Bool.and_eq_true, decide_eq_true_eq, leads_iff s hs a b hb] at hbad
  have e1 := hbad.2.mono h
  have e2 := eYrs_ge s ds h a
  have e3 := yErr_zero s ds hy b hb
  have e4 := lYrs_le s ds h b
  omega

set_option maxRecDepth 100000 in
set_option maxHeartbeats 4000000 in
theorem DatingFits_sat (v dv yv : Value) (s : Stem) (ds : List Dt) (ys : List Int) (w : World) (h : Stm w v s) (hd : Dats w dv ds) (hys : Ints w yv ys) : SatV Try.prog 3 [v, dv, yv] w (.bool true) := by
  have hst := h
  obtain ⟨nv, ev, pv, rfl, hS, _, hP⟩ := h
  have hnv := hS.sl
  have hnb := hnv.bound
  have hyv := hys.sl
  have hyb := hyv.bound
  have hlE : (eYrs s ds).length = s.names.length := eYrs_len s ds
  have hlL : (lYrs s ds).length = s.names.length := lYrs_len s ds
  refine SatL.of 119 [6] Try.func3 (by kernel_rfl) (by kernel_rfl) rfl rfl rfl rfl ?_
  repeat' (first | (apply OK_seq) | (apply thenQ_n) | (apply OK_region) | (refine OKx_callB (f := 11) rfl rfl rfl (fun w hp => fine_sat _ _ s ds w (hst.below hp.below) (hd.below hp.below)) ?_ ?_ <;> intro hg; all_goals first | (have h25 := (fine_yErr hg).2; have h0 := (fine_yErr hg).1) | skip) | refine OKx_callV (f := 12) rfl rfl rfl (fun w hp => awake_sat w) ?_ | refine OKx_bneq Try.underlying4 rfl rfl ?_ | (refine OKx_call (f := 13) rfl rfl (fun w hp => AnsR.told (Earliest_sat _ _ s ds w (hst.below hp.below) (hd.below hp.below)) hlE) ?_; rintro _ _ (⟨hy, g1, c1, rfl, rfl⟩ | ⟨hy, a1, c1, rfl, rfl⟩)) | (refine OKx_call (f := 14) rfl rfl (fun w hp => AnsR.told (Latest_sat _ _ s ds w (hst.below hp.below) (hd.below hp.below)) hlL) ?_; rintro _ _ (⟨hy2, g2, c2, rfl, rfl⟩ | ⟨hy2, a2, c2, rfl, rfl⟩); all_goals first | (exfalso; exact absurd ‹yErr s ds = 0› ‹yErr s ds ≠ 0›) | skip) | (refine OKx_call (f := 15) rfl rfl (fun w hp => Cons_sat _ _ s ds w (hst.below hp.below) (hd.below hp.below)) ?_; rintro _ _ (⟨hc0, rfl, rfl⟩ | ⟨hc0, ⟨ca, cb, cv, hc1, hc2, hc3, hc4, rfl, rfl⟩ | ⟨hc1, rfl, rfl⟩⟩); all_goals first | (exfalso; exact absurd h0 hc0) | (exfalso; exact absurd hy (bad_yErr s ds h0 ca cb hc2 hc3)) | (exfalso; exact absurd (noBad_yErr s ds h0 hc1) hy) | skip) | refine OKx_callV (f := 16) rfl rfl rfl (fun w1 hp => by have := fits_sat _ _ _ s ds (eYrs s ds) w1 (hst.below hp.below) (hd.below hp.below) (hp.ints 1 rfl hnb) h0; rwa [eFit s ds hy] at this) ?_ | refine OKx_callV (f := 16) rfl rfl rfl (fun w1 hp => by have := fits_sat _ _ _ s ds (lYrs s ds) w1 (hst.below hp.below) (hd.below hp.below) (hp.ints 0 rfl hnb) h0; rwa [lFit s ds hy] at this) ?_ | (refine OKx_callB (f := 16) rfl rfl rfl (fun w1 hp => fits_sat _ _ _ s ds ys w1 (hst.below hp.below) (hd.below hp.below) (hys.below hp.below) h0) ?_ ?_ <;> intro hf; all_goals first | (exfalso; exact absurd (fit_yErr s ds ys h0 hf) hy) | (have hfb := fit_bounds s ds ys h0 hf; have hfl := ((fitB_iff s ds ys).1 hf).1) | skip) | (apply OKx_nilK) | (apply OK_block) | (apply blockQ_n) | (apply blockQ_s) | (apply thenQ_e) | (apply blockQ_e; (focus exact rfl)) | (apply thenQ_r) | (apply blockQ_r) | (apply OK_condT; (focus exact rfl)) | (apply OK_condF; (focus exact rfl)) | (apply OK_skip) | (apply OK_exit) | (apply OK_ret) | (apply OKx_move; (focus ((conv => lhs; whnf) <;> exact rfl))) | (apply OKx_assign; (focus ((conv => lhs; whnf) <;> exact rfl))) | (apply OKx_ldB; (focus exact rfl); (focus first | exact at0 | exact at1 | exact at2 | exact at3 | exact at4 | exact at5 | exact at6 | exact at7); (focus exact rfl)) | (apply OKx_ldR; (focus ((conv => lhs; whnf) <;> exact rfl)); (focus with_reducible assumption)) | (apply OKx_ldI; (focus exact rfl); (focus first | exact at0 | exact at1 | exact at2 | exact at3 | exact at4 | exact at5 | exact at6 | exact at7); (focus omega)) | (apply OKx_len; (focus exact rfl)) | (apply OKx_lenR; (focus ((conv => lhs; whnf) <;> exact rfl)); (focus with_reducible assumption)) | (apply OKx_lenR2; (focus ((conv => lhs; whnf) <;> exact rfl)); (focus with_reducible assumption)) | (apply OKx_lenO; (focus ((conv => lhs; whnf) <;> exact rfl)); (focus first | exact at0 | exact at1 | exact at2 | exact at3 | exact at4 | exact at5 | exact at6 | exact at7)) | (apply OKx_lenS; (focus exact rfl)) | (apply OKx_lss; (focus exact rfl); (focus exact rfl); all_goals (intro _; try (exfalso; omega))) | (apply OKx_leq; (focus exact rfl); (focus exact rfl); all_goals (intro _; try (exfalso; omega))) | (apply OKx_gtr; (focus exact rfl); (focus exact rfl); all_goals (intro _; try (exfalso; omega))) | (apply OKx_geq; (focus exact rfl); (focus exact rfl); all_goals (intro _; try (exfalso; omega))) | (apply OKx_eql; (focus exact rfl); (focus exact rfl); all_goals (intro _; try (exfalso; omega))) | (apply OKx_neq; (focus exact rfl); (focus exact rfl); all_goals (intro _; try (exfalso; omega))) | (apply OKx_seql; (focus exact rfl); (focus exact rfl); all_goals intro _) | (apply OKx_sneq; (focus exact rfl); (focus exact rfl); all_goals intro _) | (apply OKx_idxO; (focus exact rfl); (focus exact rfl); (focus omega)) | (apply OKx_idxR; (focus ((conv => lhs; whnf) <;> exact rfl)); (focus with_reducible assumption); (focus exact rfl); (focus omega); intro _ _) | (apply OKx_idxR2; (focus ((conv => lhs; whnf) <;> exact rfl)); (focus with_reducible assumption); (focus exact rfl); (focus omega); intro _ _) | (apply OKx_idxOz; (focus exact rfl); (focus exact rfl); (focus omega); (focus omega)) | (apply OKx_idxRz; (focus ((conv => lhs; whnf) <;> exact rfl)); (focus with_reducible assumption); (focus exact rfl); (focus omega); (focus omega); intro _ _) | (apply OKx_idxS; (focus exact rfl); (focus exact rfl); (focus omega)) | (apply OKx_fldO; (focus exact rfl); (focus exact rfl)) | (apply OKx_fldR; (focus ((conv => lhs; whnf) <;> exact rfl)); (focus with_reducible assumption); (focus decide); intro _ _) | (apply OKx_inc; (focus exact rfl); (focus exact rfl); (focus omega)) | (apply OKx_addN; (focus exact rfl); (focus exact rfl); (focus omega)) | (apply OKx_add; (focus exact rfl); (focus exact rfl); (focus omega); (focus omega)) | (apply OKx_dec; (focus exact rfl); (focus exact rfl); (focus omega); (focus omega)) | (apply OKx_subN; (focus exact rfl); (focus exact rfl); (focus omega); (focus omega)) | (apply OKx_sub; (focus exact rfl); (focus exact rfl); (focus omega); (focus omega)) | (apply OKx_max; (focus exact rfl); (focus exact rfl)) | (apply OKx_min; (focus exact rfl); (focus exact rfl)) | (apply OKx_pickT; (focus exact rfl); (focus ((conv => lhs; whnf) <;> exact rfl))) | (apply OKx_pickF; (focus exact rfl); (focus ((conv => lhs; whnf) <;> exact rfl))) | (apply OKx_guardT; (focus exact rfl); (focus exact rfl)) | (apply OKx_guardF; (focus exact rfl); (focus exact rfl)) | (apply OKx_notT; (focus exact rfl)) | (apply OKx_notF; (focus exact rfl)) | (apply OKx_extract; (focus exact rfl); (focus ((conv => lhs; whnf) <;> exact rfl))) | (apply OKx_boxA; (focus exact rfl); intro _) | (apply OKx_alloc1; intro _) | (apply OKx_allocA; intro _) | (apply OKx_ldBA; (focus exact rfl); (focus first | exact at0 | exact at1 | exact at2 | exact at3 | exact at4 | exact at5 | exact at6 | exact at7); (focus exact rfl)) | (apply OKx_ldRA; (focus ((conv => lhs; whnf) <;> exact rfl)); (focus with_reducible assumption)) | (apply OKx_stI; (focus exact rfl); (focus exact rfl); (focus first | exact at0 | exact at1 | exact at2 | exact at3 | exact at4 | exact at5 | exact at6 | exact at7); (focus omega); (focus exact rfl)) | (apply OKx_stB; (focus exact rfl); (focus ((conv => lhs; whnf) <;> exact rfl)); (focus exact rfl); (focus exact rfl); (focus first | exact at0 | exact at1 | exact at2 | exact at3 | exact at4 | exact at5 | exact at6 | exact at7); (focus exact rfl); (focus exact rfl); (focus exact rfl)) | (apply OKx_ldBo; (focus exact rfl); (focus first | exact at0 | exact at1 | exact at2 | exact at3 | exact at4 | exact at5 | exact at6 | exact at7); (focus omega)) | (apply OKx_stBo; (focus exact rfl); (focus exact rfl); (focus first | exact at0 | exact at1 | exact at2 | exact at3 | exact at4 | exact at5 | exact at6 | exact at7); (focus omega); (focus exact rfl)) | (apply OKx_slit1; (focus ((conv => lhs; whnf) <;> exact rfl)); (focus exact rfl); intro _) | (apply OKx_slit0; intro _) | (apply OKx_slit3; (focus ((conv => lhs; whnf) <;> exact rfl)); (focus ((conv => lhs; whnf) <;> exact rfl)); (focus ((conv => lhs; whnf) <;> exact rfl)); (focus exact rfl); (focus exact rfl); (focus exact rfl); intro _) | (apply OKx_slit2; (focus ((conv => lhs; whnf) <;> exact rfl)); (focus ((conv => lhs; whnf) <;> exact rfl)); (focus exact rfl); (focus exact rfl); intro _) | (apply OKx_box1; (focus ((conv => lhs; whnf) <;> exact rfl)); (focus exact rfl); intro _) | (apply OKx_func; (focus exact rfl); (focus exact rfl)) | (apply OKx_build3; (focus ((conv => lhs; whnf) <;> exact rfl)); (focus ((conv => lhs; whnf) <;> exact rfl)); (focus ((conv => lhs; whnf) <;> exact rfl)); (focus exact rfl); (focus exact rfl); (focus exact rfl)) | (apply OKx_build2; (focus ((conv => lhs; whnf) <;> exact rfl)); (focus ((conv => lhs; whnf) <;> exact rfl)); (focus exact rfl); (focus exact rfl)) | (apply OKx_stBA; (focus kernel_rfl); (focus exact rfl); (focus exact rfl); (focus exact rfl); (focus first | exact at0 | exact at1 | exact at2 | exact at3 | exact at4 | exact at5 | exact at6 | exact at7); (focus exact rfl); (focus exact rfl); (focus exact rfl)) | (apply OKx_nilCheck; (focus exact rfl)) | (apply OKx_field1; (focus exact rfl); (focus ((conv => lhs; whnf) <;> exact rfl))))
  · first | refine bodyQ_r1 (by ((conv => lhs; whnf) <;> exact rfl)) ?_ | refine bodyQ_r2 (by ((conv => lhs; whnf) <;> exact rfl)) (by ((conv => lhs; whnf) <;> exact rfl)) ?_ | refine bodyQ_r3 (by ((conv => lhs; whnf) <;> exact rfl)) (by ((conv => lhs; whnf) <;> exact rfl)) (by ((conv => lhs; whnf) <;> exact rfl)) ?_ | refine bodyQ_r0 ?_ | refine bodyQ_n0 ?_
    exact ⟨_, Ent.nil, rfl, rfl⟩
  · refine OK_loop1 98 [6, 14, 15, 98, 99, 100, 101, 102, 103, 104, 105, 106, 107, 108, 109, 110, 111, 112, 113, 114, 115, 116, 117] (fun m v L => ∃ k : Nat, k + m = ys.length ∧ v = .int .i64 (k : Int) ∧ L = [.row 3 1 (.slice (some ⟨g2, 0, none⟩) s.names.length c2) s.names.length (ints (lYrs s ds)), .row 3 1 (.slice (some ⟨g1, 0, none⟩) s.names.length c1) s.names.length (ints (eYrs s ds))]) ys.length _ (Ent.pick [0, 1] rfl) ⟨0, by omega, rfl, rfl⟩ ?_
    rintro m v L G ⟨k, hm, rfl, rfl⟩
    have hk := hfb k
    repeat' (first | (apply OK_seq) | (apply thenQ_n) | (apply OK_region) | refine OKx_callV (f := 12) rfl rfl rfl (fun w hp => awake_sat w) ?_ | (apply OKx_nilK) | (apply OK_block) | (apply blockQ_n) | (apply blockQ_s) | (apply thenQ_e) | (apply blockQ_e; (focus exact rfl)) | (apply thenQ_r) | (apply blockQ_r) | (apply OK_condT; (focus exact rfl)) | (apply OK_condF; (focus exact rfl)) | (apply OK_skip) | (apply OK_exit) | (apply OK_ret) | (apply OKx_move; (focus ((conv => lhs; whnf) <;> exact rfl))) | (apply OKx_assign; (focus ((conv => lhs; whnf) <;> exact rfl))) | (apply OKx_ldB; (focus exact rfl); (focus first | exact at0 | exact at1 | exact at2 | exact at3 | exact at4 | exact at5 | exact at6 | exact at7); (focus exact rfl)) | (apply OKx_ldR; (focus ((conv => lhs; whnf) <;> exact rfl)); (focus with_reducible assumption)) | (apply OKx_ldI; (focus exact rfl); (focus first | exact at0 | exact at1 | exact at2 | exact at3 | exact at4 | exact at5 | exact at6 | exact at7); (focus omega)) | (apply OKx_len; (focus exact rfl)) | (apply OKx_lenR; (focus ((conv => lhs; whnf) <;> exact rfl)); (focus with_reducible assumption)) | (apply OKx_lenR2; (focus ((conv => lhs; whnf) <;> exact rfl)); (focus with_reducible assumption)) | (apply OKx_lenO; (focus ((conv => lhs; whnf) <;> exact rfl)); (focus first | exact at0 | exact at1 | exact at2 | exact at3 | exact at4 | exact at5 | exact at6 | exact at7)) | (apply OKx_lenS; (focus exact rfl)) | (apply OKx_lss; (focus exact rfl); (focus exact rfl); all_goals (intro _; try (exfalso; omega))) | (apply OKx_leq; (focus exact rfl); (focus exact rfl); all_goals (intro _; try (exfalso; omega))) | (apply OKx_gtr; (focus exact rfl); (focus exact rfl); all_goals (intro _; try (exfalso; omega))) | (apply OKx_geq; (focus exact rfl); (focus exact rfl); all_goals (intro _; try (exfalso; omega))) | (apply OKx_eql; (focus exact rfl); (focus exact rfl); all_goals (intro _; try (exfalso; omega))) | (apply OKx_neq; (focus exact rfl); (focus exact rfl); all_goals (intro _; try (exfalso; omega))) | (apply OKx_seql; (focus exact rfl); (focus exact rfl); all_goals intro _) | (apply OKx_sneq; (focus exact rfl); (focus exact rfl); all_goals intro _) | (apply OKx_idxO; (focus exact rfl); (focus exact rfl); (focus omega)) | (apply OKx_idxR; (focus ((conv => lhs; whnf) <;> exact rfl)); (focus with_reducible assumption); (focus exact rfl); (focus omega); intro _ _) | (apply OKx_idxR2; (focus ((conv => lhs; whnf) <;> exact rfl)); (focus with_reducible assumption); (focus exact rfl); (focus omega); intro _ _) | (apply OKx_idxOz; (focus exact rfl); (focus exact rfl); (focus omega); (focus omega)) | (apply OKx_idxRz; (focus ((conv => lhs; whnf) <;> exact rfl)); (focus with_reducible assumption); (focus exact rfl); (focus omega); (focus omega); intro _ _) | (apply OKx_idxS; (focus exact rfl); (focus exact rfl); (focus omega)) | (apply OKx_fldO; (focus exact rfl); (focus exact rfl)) | (apply OKx_fldR; (focus ((conv => lhs; whnf) <;> exact rfl)); (focus with_reducible assumption); (focus decide); intro _ _) | (apply OKx_inc; (focus exact rfl); (focus exact rfl); (focus omega)) | (apply OKx_addN; (focus exact rfl); (focus exact rfl); (focus omega)) | (apply OKx_add; (focus exact rfl); (focus exact rfl); (focus omega); (focus omega)) | (apply OKx_dec; (focus exact rfl); (focus exact rfl); (focus omega); (focus omega)) | (apply OKx_subN; (focus exact rfl); (focus exact rfl); (focus omega); (focus omega)) | (apply OKx_sub; (focus exact rfl); (focus exact rfl); (focus omega); (focus omega)) | (apply OKx_max; (focus exact rfl); (focus exact rfl)) | (apply OKx_min; (focus exact rfl); (focus exact rfl)) | (apply OKx_pickT; (focus exact rfl); (focus ((conv => lhs; whnf) <;> exact rfl))) | (apply OKx_pickF; (focus exact rfl); (focus ((conv => lhs; whnf) <;> exact rfl))) | (apply OKx_guardT; (focus exact rfl); (focus exact rfl)) | (apply OKx_guardF; (focus exact rfl); (focus exact rfl)) | (apply OKx_notT; (focus exact rfl)) | (apply OKx_notF; (focus exact rfl)) | (apply OKx_extract; (focus exact rfl); (focus ((conv => lhs; whnf) <;> exact rfl))) | (apply OKx_boxA; (focus exact rfl); intro _) | (apply OKx_alloc1; intro _) | (apply OKx_allocA; intro _) | (apply OKx_ldBA; (focus exact rfl); (focus first | exact at0 | exact at1 | exact at2 | exact at3 | exact at4 | exact at5 | exact at6 | exact at7); (focus exact rfl)) | (apply OKx_ldRA; (focus ((conv => lhs; whnf) <;> exact rfl)); (focus with_reducible assumption)) | (apply OKx_stI; (focus exact rfl); (focus exact rfl); (focus first | exact at0 | exact at1 | exact at2 | exact at3 | exact at4 | exact at5 | exact at6 | exact at7); (focus omega); (focus exact rfl)) | (apply OKx_stB; (focus exact rfl); (focus ((conv => lhs; whnf) <;> exact rfl)); (focus exact rfl); (focus exact rfl); (focus first | exact at0 | exact at1 | exact at2 | exact at3 | exact at4 | exact at5 | exact at6 | exact at7); (focus exact rfl); (focus exact rfl); (focus exact rfl)) | (apply OKx_ldBo; (focus exact rfl); (focus first | exact at0 | exact at1 | exact at2 | exact at3 | exact at4 | exact at5 | exact at6 | exact at7); (focus omega)) | (apply OKx_stBo; (focus exact rfl); (focus exact rfl); (focus first | exact at0 | exact at1 | exact at2 | exact at3 | exact at4 | exact at5 | exact at6 | exact at7); (focus omega); (focus exact rfl)) | (apply OKx_slit1; (focus ((conv => lhs; whnf) <;> exact rfl)); (focus exact rfl); intro _) | (apply OKx_slit0; intro _) | (apply OKx_slit3; (focus ((conv => lhs; whnf) <;> exact rfl)); (focus ((conv => lhs; whnf) <;> exact rfl)); (focus ((conv => lhs; whnf) <;> exact rfl)); (focus exact rfl); (focus exact rfl); (focus exact rfl); intro _) | (apply OKx_slit2; (focus ((conv => lhs; whnf) <;> exact rfl)); (focus ((conv => lhs; whnf) <;> exact rfl)); (focus exact rfl); (focus exact rfl); intro _) | (apply OKx_box1; (focus ((conv => lhs; whnf) <;> exact rfl)); (focus exact rfl); intro _) | (apply OKx_func; (focus exact rfl); (focus exact rfl)) | (apply OKx_build3; (focus ((conv => lhs; whnf) <;> exact rfl)); (focus ((conv => lhs; whnf) <;> exact rfl)); (focus ((conv => lhs; whnf) <;> exact rfl)); (focus exact rfl); (focus exact rfl); (focus exact rfl)) | (apply OKx_build2; (focus ((conv => lhs; whnf) <;> exact rfl)); (focus ((conv => lhs; whnf) <;> exact rfl)); (focus exact rfl); (focus exact rfl)) | (apply OKx_stBA; (focus kernel_rfl); (focus exact rfl); (focus exact rfl); (focus exact rfl); (focus first | exact at0 | exact at1 | exact at2 | exact at3 | exact at4 | exact at5 | exact at6 | exact at7); (focus exact rfl); (focus exact rfl); (focus exact rfl)) | (apply OKx_nilCheck; (focus exact rfl)) | (apply OKx_field1; (focus exact rfl); (focus ((conv => lhs; whnf) <;> exact rfl))))
    · refine ⟨by (repeat' (first | refine agree_upd rfl ?_ | exact agree_over | exact agree_refl _ _ | refine agree_over2 rfl ?_)), m - 1, _, by omega, Ent.refl _ _, ?_⟩
      exact ⟨k + 1, by omega, rfl, rfl⟩
    · first | refine bodyQ_r1 (by ((conv => lhs; whnf) <;> exact rfl)) ?_ | refine bodyQ_r2 (by ((conv => lhs; whnf) <;> exact rfl)) (by ((conv => lhs; whnf) <;> exact rfl)) ?_ | refine bodyQ_r3 (by ((conv => lhs; whnf) <;> exact rfl)) (by ((conv => lhs; whnf) <;> exact rfl)) (by ((conv => lhs; whnf) <;> exact rfl)) ?_ | refine bodyQ_r0 ?_ | refine bodyQ_n0 ?_
      exact ⟨_, Ent.nil, rfl, rfl⟩
  all_goals
    first | refine bodyQ_r1 (by ((conv => lhs; whnf) <;> exact rfl)) ?_ | refine bodyQ_r2 (by ((conv => lhs; whnf) <;> exact rfl)) (by ((conv => lhs; whnf) <;> exact rfl)) ?_ | refine bodyQ_r3 (by ((conv => lhs; whnf) <;> exact rfl)) (by ((conv => lhs; whnf) <;> exact rfl)) (by ((conv => lhs; whnf) <;> exact rfl)) ?_ | refine bodyQ_r0 ?_ | refine bodyQ_n0 ?_
    exact ⟨_, Ent.nil, rfl, rfl⟩
#print axioms DatingFits_sat
end Go.Proofs.Ytpbohmddbfaiiaa
