/-
  Dates with an entry less stay consistent. No statement of the seat is proved here.
-/
import Derived.Test.YtpbohmddbfaiiaaDel
import Derived.Test.YtpbohmddbfaiiaaLawc37
namespace Go.Proofs.Ytpbohmddbfaiiaa
open Go.RowKit

theorem firstErr_all (f : Nat → Int) (n : Nat) (h : ∀ k, k < n → f k = 0) : firstErr f n = 0 := by
  induction n with
  | zero => rfl
  | succ n ih => exact firstErr_step f n (ih fun k hk => h k (by omega)) (h n (by omega))
theorem dCheck_of (s : Stem) (ds : List Dt) (h0 : stCheck s = 0) (h : ∀ k, (hk : k < ds.length) → ¬ dBad s.names.length ds[k] ∧ ds[k].fr ≤ ds[k].to ∧ ∀ j, (hj : j < k) → ds[j].node ≠ ds[k].node) : dCheck s ds = 0 := by
  refine dCheck_ok s ds h0 (firstErr_all _ _ fun k hk => ?_)
  obtain ⟨h1, h2, h3⟩ := h k hk
  rw [dtAt_eq _ _ _ hk, if_neg h1, if_neg (by omega), if_neg]
  intro ha
  obtain ⟨e, he, hn⟩ := List.any_eq_true.1 ha
  obtain ⟨j, hj, rfl⟩ := List.mem_take_iff_getElem.1 he
  exact h3 j (by omega) (by simpa using hn)
theorem dCheck_erase (s : Stem) (ds : List Dt) (i : Nat) (h : dCheck s ds = 0) : dCheck s (ds.eraseIdx i) = 0 := by
  have hd := (dCheck_dist s ds h).sublist (List.eraseIdx_sublist ds i)
  refine dCheck_of s _ (dCheck_zero s ds h).1 fun k hk => ?_
  have hm : (ds.eraseIdx i)[k] ∈ ds := (List.eraseIdx_sublist ds i).subset (List.getElem_mem hk)
  obtain ⟨q, hq, e⟩ := List.getElem_of_mem hm
  obtain ⟨h1, h2, _⟩ := (dCheck_zero s ds h).2 q hq
  rw [e] at h1 h2
  refine ⟨h1, h2, fun j hj => ?_⟩
  exact List.pairwise_iff_getElem.1 hd j k (by omega) hk hj
theorem yErr_of (s : Stem) (ds : List Dt) (h : dCheck s ds = 0) (hc : ∀ i, i < s.names.length → (eYrs s ds).getD i 0 ≤ (lYrs s ds).getD i 0) : yErr s ds = 0 := by
  unfold yErr
  rw [if_neg (by rw [h]; simp), if_pos (consB_true _ _ _ hc)]
theorem getD_out (xs : List Int) (j : Nat) (h : xs.length ≤ j) : xs.getD j 0 = 0 := by simp [h]

/-- Years that fit the dates of ds lie between its earliest and its latest ones. -/
theorem eYrs_least (s : Stem) (ds : List Dt) (h : dCheck s ds = 0) (y : Nat → Int) (h1 : ∀ d ∈ ds, d.fr ≤ y d.node.toNat) (h2 : ∀ i, i < s.names.length → -5000 ≤ y i) (h3 : ∀ i, i < s.par.length → ∀ p ∈ s.par.getD i [], y p.toNat ≤ y i) (i : Nat) (hi : i < s.names.length) : (eYrs s ds).getD i 0 ≤ y i := by
  have hs := (dCheck_zero s ds h).1
  obtain ⟨_, _, _, hpl, _⟩ := stCheck_len s hs
  have := earl_least s.par (loOf s.names.length ds) (stCheck_okPar s hs) (by rw [loOf_len, hpl]) y (fun i hi => loOf_least _ _ y h1 h2 i (by omega)) (fun i hi p hp => h3 i hi p (by simpa [hi] using hp)) i (by omega)
  rwa [hpl] at this
theorem lYrs_most (s : Stem) (ds : List Dt) (h : dCheck s ds = 0) (y : Nat → Int) (h1 : ∀ d ∈ ds, y d.node.toNat ≤ d.to) (h2 : ∀ i, i < s.names.length → y i ≤ 5000) (h3 : ∀ i, i < s.par.length → ∀ p ∈ s.par.getD i [], y p.toNat ≤ y i) (i : Nat) (hi : i < s.names.length) : y i ≤ (lYrs s ds).getD i 0 := by
  have hs := (dCheck_zero s ds h).1
  obtain ⟨_, _, _, hpl, _⟩ := stCheck_len s hs
  have hok := stCheck_okPar s hs
  have := (late_spec s.par hok s.par.length (hiOf s.names.length ds) (Nat.le_refl _) (by rw [hiOf_len, hpl])).2.2.2 (fun j => if j < s.names.length then y j else 0)
    (fun j => by
      split
      · exact hiOf_most _ _ y h1 h2 j ‹_›
      · rw [getD_out _ _ (by rw [hiOf_len]; omega)]; exact Int.le_refl _)
    (fun i hi _ p hp => by
      have hp0 := hok i hi p hp
      show (if p.toNat < _ then _ else _) ≤ (if i < _ then _ else _)
      rw [if_pos (by omega), if_pos (by omega)]
      exact h3 i hi p (by simpa [hi] using hp)) i
  rw [hpl] at this
  simp only [hi, if_true] at this
  exact this
theorem par_up (s : Stem) (ds : List Dt) (h : dCheck s ds = 0) (i : Nat) (hi : i < s.par.length) (p : Int) (hp : p ∈ s.par.getD i []) : (eYrs s ds).getD p.toNat 0 ≤ (eYrs s ds).getD i 0 ∧ (lYrs s ds).getD p.toNat 0 ≤ (lYrs s ds).getD i 0 ∧ 0 ≤ p ∧ p < i := by
  have hs := (dCheck_zero s ds h).1
  obtain ⟨_, _, _, hpl, _⟩ := stCheck_len s hs
  have hok := stCheck_okPar s hs
  have hm : p ∈ s.par[i] := by simpa [hi] using hp
  obtain ⟨_, _, e3, _⟩ := earl_spec s.par (loOf s.names.length ds) hok (by rw [loOf_len, hpl]) s.par.length (Nat.le_refl _)
  obtain ⟨_, _, l3, _⟩ := late_spec s.par hok s.par.length (hiOf s.names.length ds) (Nat.le_refl _) (by rw [hiOf_len, hpl])
  have a := e3 i hi hi _ hm
  have b := l3 i hi hi _ hm
  rw [hpl] at a b
  exact ⟨a, b, hok i hi p hm⟩
theorem dAll_in (s : Stem) (ds : List Dt) (h : dCheck s ds = 0) : AllY (eYrs s ds) ∧ AllY (lYrs s ds) := ⟨(loOf_in _ s ds h).earl _ _, AllY.late _ _ (hiOf_in _ s ds h)⟩
theorem less_law (s : Stem) (ds : List Dt) (i : Nat) (h : yErr s ds = 0) : yErr s (ds.eraseIdx i) = 0 ∧ ∀ k, k < s.names.length → (eYrs s (ds.eraseIdx i)).getD k 0 ≤ (eYrs s ds).getD k 0 ∧ (lYrs s ds).getD k 0 ≤ (lYrs s (ds.eraseIdx i)).getD k 0 := by
  have h0 := yErr_check s ds h
  have h1 := dCheck_erase s ds i h0
  obtain ⟨a1, a2⟩ := dAll_in s ds h0
  have hsub : ∀ d ∈ ds.eraseIdx i, d ∈ ds := fun d hd => (List.eraseIdx_sublist ds i).subset hd
  have hE := eYrs_least s (ds.eraseIdx i) h1 (fun j => (eYrs s ds).getD j 0) (fun d hd => by
    have := eYrs_ge s ds h0 d.node.toNat
    rwa [loOf_at s ds h0 d (hsub d hd)] at this) (fun j _ => (a1 j).1) (fun j hj p hp => (par_up s ds h0 j hj p hp).1)
  have hL := lYrs_most s (ds.eraseIdx i) h1 (fun j => (lYrs s ds).getD j 0) (fun d hd => by
    have := lYrs_le s ds h0 d.node.toNat
    rwa [hiOf_at s ds h0 d (hsub d hd)] at this) (fun j _ => (a2 j).2) (fun j hj p hp => (par_up s ds h0 j hj p hp).2.1)
  have h2 := yErr_zero s ds h
  refine ⟨yErr_of s _ h1 fun k hk => ?_, fun k hk => ⟨hE k hk, hL k hk⟩⟩
  have x := hE k hk
  have y := hL k hk
  have z := h2 k hk
  show (eYrs s (ds.eraseIdx i)).getD k 0 ≤ _
  omega

theorem Hp.dats {B : Nat} {w0 w : World} {L : List Res} (h : Hp B w0 w L) (i : Nat) {v : Value} {ds : List Dt} (hi : L[i]? = some (drow v ds)) (hn : ds.length ≤ 140737488355328)
    (hb : ∀ d ∈ ds, (-9223372036854775808 ≤ d.node ∧ d.node ≤ 9223372036854775807) ∧ (-9223372036854775808 ≤ d.fr ∧ d.fr ≤ 9223372036854775807) ∧ (-9223372036854775808 ≤ d.to ∧ d.to ≤ 9223372036854775807)) : Dats w v ds := by
  refine ⟨h.sl i hi hn fun j hj => ?_, hb⟩
  have : j < (dcells ds).length := by rw [dcells_len]; exact hj
  simp [this]

set_option maxRecDepth 100000 in
set_option maxHeartbeats 4000000 in
theorem DatingLess_sat (v dv : Value) (s : Stem) (ds : List Dt) (q : Nat) (w : World) (h : Stm w v s) (hd : Dats w dv ds) (hq : q ≤ 255) : SatV Try.prog 7 [v, dv, .int .u8 (q : Int)] w (.bool true) := by
  have hst := h
  obtain ⟨nv, ev, pv, rfl, hS, _, hP⟩ := h
  have hnv := hS.sl
  have hnb := hnv.bound
  obtain ⟨df, hdv⟩ := hd.len
  have hdb := hdv.bound
  have hi0 : 0 < ds.length → q % ds.length < ds.length := fun h => Nat.mod_lt _ h
  generalize hi : q % ds.length = i at *
  have hlE : (eYrs s ds).length = s.names.length := eYrs_len s ds
  have hlL : (lYrs s ds).length = s.names.length := lYrs_len s ds
  have hlE2 : (eYrs s (ds.eraseIdx i)).length = s.names.length := eYrs_len s _
  have hlL2 : (lYrs s (ds.eraseIdx i)).length = s.names.length := lYrs_len s _
  have hll : (ds.eraseIdx i).length ≤ 140737488355328 := Nat.le_trans (List.eraseIdx_sublist ds i).length_le hdb
  have hlb : ∀ d ∈ ds.eraseIdx i, (-9223372036854775808 ≤ d.node ∧ d.node ≤ 9223372036854775807) ∧ (-9223372036854775808 ≤ d.fr ∧ d.fr ≤ 9223372036854775807) ∧ (-9223372036854775808 ≤ d.to ∧ d.to ≤ 9223372036854775807) := fun d hm => hd.bd d ((List.eraseIdx_sublist ds i).subset hm)
  have hy0 : yErr s ds = 0 → yErr s (ds.eraseIdx i) = 0 := fun h => (less_law s ds i h).1
  have h8 : greatB s ds = false → ds.length ≤ 8 := fun h => by
    simp only [greatB, Bool.or_eq_false_iff, decide_eq_false_iff_not] at h
    omega
  refine SatL.of 125 [6] Try.func7 (by kernel_rfl) (by kernel_rfl) rfl rfl rfl rfl ?_
  repeat' (first | (apply OK_seq) | (apply thenQ_n) | (apply OK_region) | (refine OKx_callB (f := 11) rfl rfl rfl (fun w hp => fine_sat _ _ s ds w (hst.below hp.below) (hd.below hp.below)) ?_ ?_ <;> intro hg; all_goals first | (have h25 := (fine_yErr hg).2; have hd8 := h8 (by simpa using (Bool.and_eq_true_iff.1 hg).1)) | skip) | refine OKx_callV (f := 12) rfl rfl rfl (fun w hp => awake_sat w) ?_ | refine OKx_conv rfl (by kernel_rfl) Try.underlying3 (by omega) (by omega) ?_ | refine OKx_remN rfl rfl (by omega) (by omega) ?_ | (refine OKx_call (f := 30) rfl rfl (fun w hp => (clone_dat_sat _ ds w (hd.below hp.below) (by omega) (by omega)).caps) ?_; rintro _ _ ⟨⟨gd, cd, rfl, rfl⟩, hcap⟩; have hcap := hcap _ _ _ _ _ _ List.mem_cons_self; rw [hi]) | (refine OKx_callL (f := 29) rfl rfl (delete_dat_sat ds i gd cd _ w (by omega) hcap (by omega)) ?_; rintro _ _ ⟨rfl, rfl⟩) | (refine OKx_call (f := 13) rfl rfl (fun w hp => AnsR.told (Earliest_sat _ _ s ds w (hst.below hp.below) (hd.below hp.below)) hlE) ?_; rintro _ _ (⟨hy, g1, c1, rfl, rfl⟩ | ⟨hy, a1, c1, rfl, rfl⟩); all_goals first | (have hy1 := hy0 hy) | skip) | (refine OKx_call (f := 14) rfl rfl (fun w hp => AnsR.told (Latest_sat _ _ s ds w (hst.below hp.below) (hd.below hp.below)) hlL) ?_; rintro _ _ (⟨hy2, g2, c2, rfl, rfl⟩ | ⟨hy2, a2, c2, rfl, rfl⟩); all_goals first | (exfalso; exact absurd ‹yErr s ds = 0› ‹yErr s ds ≠ 0›) | skip) | (refine OKx_call (f := 13) rfl rfl (fun w hp => AnsR.told (Earliest_sat _ _ s (ds.eraseIdx i) w (hst.below hp.below) (hp.dats 2 rfl hll hlb)) hlE2) ?_; rintro _ _ (⟨hy3, g3, c3, rfl, rfl⟩ | ⟨hy3, a3, c3, rfl, rfl⟩); all_goals first | (exfalso; exact absurd ‹yErr s (ds.eraseIdx i) = 0› ‹yErr s (ds.eraseIdx i) ≠ 0›) | skip) | (refine OKx_call (f := 14) rfl rfl (fun w hp => AnsR.told (Latest_sat _ _ s (ds.eraseIdx i) w (hst.below hp.below) (hp.dats 3 rfl hll hlb)) hlL2) ?_; rintro _ _ (⟨hy4, g4, c4, rfl, rfl⟩ | ⟨hy4, a4, c4, rfl, rfl⟩); all_goals first | (exfalso; exact absurd ‹yErr s (ds.eraseIdx i) = 0› ‹yErr s (ds.eraseIdx i) ≠ 0›) | skip) | refine OK_quiet (id := 16) (by kernel_rfl) (by kernel_rfl) ?_ | (apply OKx_nilK) | (apply OK_block) | (apply blockQ_n) | (apply blockQ_s) | (apply thenQ_e) | (apply blockQ_e; (focus exact rfl)) | (apply thenQ_r) | (apply blockQ_r) | (apply OK_condT; (focus exact rfl)) | (apply OK_condF; (focus exact rfl)) | (apply OK_skip) | (apply OK_exit) | (apply OK_ret) | (apply OKx_move; (focus ((conv => lhs; whnf) <;> exact rfl))) | (apply OKx_assign; (focus ((conv => lhs; whnf) <;> exact rfl))) | (apply OKx_ldB; (focus exact rfl); (focus first | exact at0 | exact at1 | exact at2 | exact at3 | exact at4 | exact at5 | exact at6 | exact at7); (focus exact rfl)) | (apply OKx_ldR; (focus ((conv => lhs; whnf) <;> exact rfl)); (focus with_reducible assumption)) | (apply OKx_ldI; (focus exact rfl); (focus first | exact at0 | exact at1 | exact at2 | exact at3 | exact at4 | exact at5 | exact at6 | exact at7); (focus omega)) | (apply OKx_len; (focus exact rfl)) | (apply OKx_lenR; (focus ((conv => lhs; whnf) <;> exact rfl)); (focus with_reducible assumption)) | (apply OKx_lenR2; (focus ((conv => lhs; whnf) <;> exact rfl)); (focus with_reducible assumption)) | (apply OKx_lenO; (focus ((conv => lhs; whnf) <;> exact rfl)); (focus first | exact at0 | exact at1 | exact at2 | exact at3 | exact at4 | exact at5 | exact at6 | exact at7)) | (apply OKx_lenS; (focus exact rfl)) | (apply OKx_lss; (focus exact rfl); (focus exact rfl); all_goals (intro _; try (exfalso; omega))) | (apply OKx_leq; (focus exact rfl); (focus exact rfl); all_goals (intro _; try (exfalso; omega))) | (apply OKx_gtr; (focus exact rfl); (focus exact rfl); all_goals (intro _; try (exfalso; omega))) | (apply OKx_geq; (focus exact rfl); (focus exact rfl); all_goals (intro _; try (exfalso; omega))) | (apply OKx_eql; (focus exact rfl); (focus exact rfl); all_goals (intro _; try (exfalso; omega))) | (apply OKx_neq; (focus exact rfl); (focus exact rfl); all_goals (intro _; try (exfalso; omega))) | (apply OKx_seql; (focus exact rfl); (focus exact rfl); all_goals intro _) | (apply OKx_sneq; (focus exact rfl); (focus exact rfl); all_goals intro _) | (apply OKx_idxO; (focus exact rfl); (focus exact rfl); (focus omega)) | (apply OKx_idxR; (focus ((conv => lhs; whnf) <;> exact rfl)); (focus with_reducible assumption); (focus exact rfl); (focus omega); intro _ _) | (apply OKx_idxR2; (focus ((conv => lhs; whnf) <;> exact rfl)); (focus with_reducible assumption); (focus exact rfl); (focus omega); intro _ _) | (apply OKx_idxOz; (focus exact rfl); (focus exact rfl); (focus omega); (focus omega)) | (apply OKx_idxRz; (focus ((conv => lhs; whnf) <;> exact rfl)); (focus with_reducible assumption); (focus exact rfl); (focus omega); (focus omega); intro _ _) | (apply OKx_idxS; (focus exact rfl); (focus exact rfl); (focus omega)) | (apply OKx_fldO; (focus exact rfl); (focus exact rfl)) | (apply OKx_fldR; (focus ((conv => lhs; whnf) <;> exact rfl)); (focus with_reducible assumption); (focus decide); intro _ _) | (apply OKx_inc; (focus exact rfl); (focus exact rfl); (focus omega)) | (apply OKx_addN; (focus exact rfl); (focus exact rfl); (focus omega)) | (apply OKx_add; (focus exact rfl); (focus exact rfl); (focus omega); (focus omega)) | (apply OKx_dec; (focus exact rfl); (focus exact rfl); (focus omega); (focus omega)) | (apply OKx_subN; (focus exact rfl); (focus exact rfl); (focus omega); (focus omega)) | (apply OKx_sub; (focus exact rfl); (focus exact rfl); (focus omega); (focus omega)) | (apply OKx_max; (focus exact rfl); (focus exact rfl)) | (apply OKx_min; (focus exact rfl); (focus exact rfl)) | (apply OKx_pickT; (focus exact rfl); (focus ((conv => lhs; whnf) <;> exact rfl))) | (apply OKx_pickF; (focus exact rfl); (focus ((conv => lhs; whnf) <;> exact rfl))) | (apply OKx_guardT; (focus exact rfl); (focus exact rfl)) | (apply OKx_guardF; (focus exact rfl); (focus exact rfl)) | (apply OKx_notT; (focus exact rfl)) | (apply OKx_notF; (focus exact rfl)) | (apply OKx_extract; (focus exact rfl); (focus ((conv => lhs; whnf) <;> exact rfl))) | (apply OKx_boxA; (focus exact rfl); intro _) | (apply OKx_alloc1; intro _) | (apply OKx_allocA; intro _) | (apply OKx_ldBA; (focus exact rfl); (focus first | exact at0 | exact at1 | exact at2 | exact at3 | exact at4 | exact at5 | exact at6 | exact at7); (focus exact rfl)) | (apply OKx_ldRA; (focus ((conv => lhs; whnf) <;> exact rfl)); (focus with_reducible assumption)) | (apply OKx_stI; (focus exact rfl); (focus exact rfl); (focus first | exact at0 | exact at1 | exact at2 | exact at3 | exact at4 | exact at5 | exact at6 | exact at7); (focus omega); (focus exact rfl)) | (apply OKx_stB; (focus exact rfl); (focus ((conv => lhs; whnf) <;> exact rfl)); (focus exact rfl); (focus exact rfl); (focus first | exact at0 | exact at1 | exact at2 | exact at3 | exact at4 | exact at5 | exact at6 | exact at7); (focus exact rfl); (focus exact rfl); (focus exact rfl)) | (apply OKx_ldBo; (focus exact rfl); (focus first | exact at0 | exact at1 | exact at2 | exact at3 | exact at4 | exact at5 | exact at6 | exact at7); (focus omega)) | (apply OKx_stBo; (focus exact rfl); (focus exact rfl); (focus first | exact at0 | exact at1 | exact at2 | exact at3 | exact at4 | exact at5 | exact at6 | exact at7); (focus omega); (focus exact rfl)) | (apply OKx_slit1; (focus ((conv => lhs; whnf) <;> exact rfl)); (focus exact rfl); intro _) | (apply OKx_slit0; intro _) | (apply OKx_slit3; (focus ((conv => lhs; whnf) <;> exact rfl)); (focus ((conv => lhs; whnf) <;> exact rfl)); (focus ((conv => lhs; whnf) <;> exact rfl)); (focus exact rfl); (focus exact rfl); (focus exact rfl); intro _) | (apply OKx_slit2; (focus ((conv => lhs; whnf) <;> exact rfl)); (focus ((conv => lhs; whnf) <;> exact rfl)); (focus exact rfl); (focus exact rfl); intro _) | (apply OKx_box1; (focus ((conv => lhs; whnf) <;> exact rfl)); (focus exact rfl); intro _) | (apply OKx_func; (focus exact rfl); (focus exact rfl)) | (apply OKx_build3; (focus ((conv => lhs; whnf) <;> exact rfl)); (focus ((conv => lhs; whnf) <;> exact rfl)); (focus ((conv => lhs; whnf) <;> exact rfl)); (focus exact rfl); (focus exact rfl); (focus exact rfl)) | (apply OKx_build2; (focus ((conv => lhs; whnf) <;> exact rfl)); (focus ((conv => lhs; whnf) <;> exact rfl)); (focus exact rfl); (focus exact rfl)) | (apply OKx_stBA; (focus kernel_rfl); (focus exact rfl); (focus exact rfl); (focus exact rfl); (focus first | exact at0 | exact at1 | exact at2 | exact at3 | exact at4 | exact at5 | exact at6 | exact at7); (focus exact rfl); (focus exact rfl); (focus exact rfl)) | (apply OKx_nilCheck; (focus exact rfl)) | (apply OKx_field1; (focus exact rfl); (focus ((conv => lhs; whnf) <;> exact rfl))))
  · first | refine bodyQ_r1 (by ((conv => lhs; whnf) <;> exact rfl)) ?_ | refine bodyQ_r2 (by ((conv => lhs; whnf) <;> exact rfl)) (by ((conv => lhs; whnf) <;> exact rfl)) ?_ | refine bodyQ_r3 (by ((conv => lhs; whnf) <;> exact rfl)) (by ((conv => lhs; whnf) <;> exact rfl)) (by ((conv => lhs; whnf) <;> exact rfl)) ?_ | refine bodyQ_r0 ?_ | refine bodyQ_n0 ?_
    exact ⟨_, Ent.nil, rfl, rfl⟩
  · refine OK_loop1 100 [6, 17, 100, 101, 102, 103, 104, 105, 106, 107, 108, 109, 110, 111, 112, 113, 114, 115, 116, 117, 118, 119, 120, 121, 122, 123] (fun m v L => ∃ k : Nat, k + m = s.names.length ∧ v = .int .i64 (k : Int) ∧ L = [.row 3 1 (.slice (some ⟨g4, 0, none⟩) s.names.length c4) s.names.length (ints (lYrs s (ds.eraseIdx i))), .row 3 1 (.slice (some ⟨g3, 0, none⟩) s.names.length c3) s.names.length (ints (eYrs s (ds.eraseIdx i))), .row 3 1 (.slice (some ⟨g2, 0, none⟩) s.names.length c2) s.names.length (ints (lYrs s ds)), .row 3 1 (.slice (some ⟨g1, 0, none⟩) s.names.length c1) s.names.length (ints (eYrs s ds))]) s.names.length _ (Ent.pick [0, 1, 2, 3] rfl) ⟨0, by omega, rfl, rfl⟩ ?_
    rintro m v L G ⟨k, hm, rfl, rfl⟩
    have hll := fun h => (less_law s ds i hy).2 k h
    repeat' (first | (apply OK_seq) | (apply thenQ_n) | (apply OK_region) | refine OKx_callV (f := 12) rfl rfl rfl (fun w hp => awake_sat w) ?_ | refine OK_quiet (id := 16) (by kernel_rfl) (by kernel_rfl) ?_ | (apply OKx_nilK) | (apply OK_block) | (apply blockQ_n) | (apply blockQ_s) | (apply thenQ_e) | (apply blockQ_e; (focus exact rfl)) | (apply thenQ_r) | (apply blockQ_r) | (apply OK_condT; (focus exact rfl)) | (apply OK_condF; (focus exact rfl)) | (apply OK_skip) | (apply OK_exit) | (apply OK_ret) | (apply OKx_move; (focus ((conv => lhs; whnf) <;> exact rfl))) | (apply OKx_assign; (focus ((conv => lhs; whnf) <;> exact rfl))) | (apply OKx_ldB; (focus exact rfl); (focus first | exact at0 | exact at1 | exact at2 | exact at3 | exact at4 | exact at5 | exact at6 | exact at7); (focus exact rfl)) | (apply OKx_ldR; (focus ((conv => lhs; whnf) <;> exact rfl)); (focus with_reducible assumption)) | (apply OKx_ldI; (focus exact rfl); (focus first | exact at0 | exact at1 | exact at2 | exact at3 | exact at4 | exact at5 | exact at6 | exact at7); (focus omega)) | (apply OKx_len; (focus exact rfl)) | (apply OKx_lenR; (focus ((conv => lhs; whnf) <;> exact rfl)); (focus with_reducible assumption)) | (apply OKx_lenR2; (focus ((conv => lhs; whnf) <;> exact rfl)); (focus with_reducible assumption)) | (apply OKx_lenO; (focus ((conv => lhs; whnf) <;> exact rfl)); (focus first | exact at0 | exact at1 | exact at2 | exact at3 | exact at4 | exact at5 | exact at6 | exact at7)) | (apply OKx_lenS; (focus exact rfl)) | (apply OKx_lss; (focus exact rfl); (focus exact rfl); all_goals (intro _; try (exfalso; omega))) | (apply OKx_leq; (focus exact rfl); (focus exact rfl); all_goals (intro _; try (exfalso; omega))) | (apply OKx_gtr; (focus exact rfl); (focus exact rfl); all_goals (intro _; try (exfalso; omega))) | (apply OKx_geq; (focus exact rfl); (focus exact rfl); all_goals (intro _; try (exfalso; omega))) | (apply OKx_eql; (focus exact rfl); (focus exact rfl); all_goals (intro _; try (exfalso; omega))) | (apply OKx_neq; (focus exact rfl); (focus exact rfl); all_goals (intro _; try (exfalso; omega))) | (apply OKx_seql; (focus exact rfl); (focus exact rfl); all_goals intro _) | (apply OKx_sneq; (focus exact rfl); (focus exact rfl); all_goals intro _) | (apply OKx_idxO; (focus exact rfl); (focus exact rfl); (focus omega)) | (apply OKx_idxR; (focus ((conv => lhs; whnf) <;> exact rfl)); (focus with_reducible assumption); (focus exact rfl); (focus omega); intro _ _) | (apply OKx_idxR2; (focus ((conv => lhs; whnf) <;> exact rfl)); (focus with_reducible assumption); (focus exact rfl); (focus omega); intro _ _) | (apply OKx_idxOz; (focus exact rfl); (focus exact rfl); (focus omega); (focus omega)) | (apply OKx_idxRz; (focus ((conv => lhs; whnf) <;> exact rfl)); (focus with_reducible assumption); (focus exact rfl); (focus omega); (focus omega); intro _ _) | (apply OKx_idxS; (focus exact rfl); (focus exact rfl); (focus omega)) | (apply OKx_fldO; (focus exact rfl); (focus exact rfl)) | (apply OKx_fldR; (focus ((conv => lhs; whnf) <;> exact rfl)); (focus with_reducible assumption); (focus decide); intro _ _) | (apply OKx_inc; (focus exact rfl); (focus exact rfl); (focus omega)) | (apply OKx_addN; (focus exact rfl); (focus exact rfl); (focus omega)) | (apply OKx_add; (focus exact rfl); (focus exact rfl); (focus omega); (focus omega)) | (apply OKx_dec; (focus exact rfl); (focus exact rfl); (focus omega); (focus omega)) | (apply OKx_subN; (focus exact rfl); (focus exact rfl); (focus omega); (focus omega)) | (apply OKx_sub; (focus exact rfl); (focus exact rfl); (focus omega); (focus omega)) | (apply OKx_max; (focus exact rfl); (focus exact rfl)) | (apply OKx_min; (focus exact rfl); (focus exact rfl)) | (apply OKx_pickT; (focus exact rfl); (focus ((conv => lhs; whnf) <;> exact rfl))) | (apply OKx_pickF; (focus exact rfl); (focus ((conv => lhs; whnf) <;> exact rfl))) | (apply OKx_guardT; (focus exact rfl); (focus exact rfl)) | (apply OKx_guardF; (focus exact rfl); (focus exact rfl)) | (apply OKx_notT; (focus exact rfl)) | (apply OKx_notF; (focus exact rfl)) | (apply OKx_extract; (focus exact rfl); (focus ((conv => lhs; whnf) <;> exact rfl))) | (apply OKx_boxA; (focus exact rfl); intro _) | (apply OKx_alloc1; intro _) | (apply OKx_allocA; intro _) | (apply OKx_ldBA; (focus exact rfl); (focus first | exact at0 | exact at1 | exact at2 | exact at3 | exact at4 | exact at5 | exact at6 | exact at7); (focus exact rfl)) | (apply OKx_ldRA; (focus ((conv => lhs; whnf) <;> exact rfl)); (focus with_reducible assumption)) | (apply OKx_stI; (focus exact rfl); (focus exact rfl); (focus first | exact at0 | exact at1 | exact at2 | exact at3 | exact at4 | exact at5 | exact at6 | exact at7); (focus omega); (focus exact rfl)) | (apply OKx_stB; (focus exact rfl); (focus ((conv => lhs; whnf) <;> exact rfl)); (focus exact rfl); (focus exact rfl); (focus first | exact at0 | exact at1 | exact at2 | exact at3 | exact at4 | exact at5 | exact at6 | exact at7); (focus exact rfl); (focus exact rfl); (focus exact rfl)) | (apply OKx_ldBo; (focus exact rfl); (focus first | exact at0 | exact at1 | exact at2 | exact at3 | exact at4 | exact at5 | exact at6 | exact at7); (focus omega)) | (apply OKx_stBo; (focus exact rfl); (focus exact rfl); (focus first | exact at0 | exact at1 | exact at2 | exact at3 | exact at4 | exact at5 | exact at6 | exact at7); (focus omega); (focus exact rfl)) | (apply OKx_slit1; (focus ((conv => lhs; whnf) <;> exact rfl)); (focus exact rfl); intro _) | (apply OKx_slit0; intro _) | (apply OKx_slit3; (focus ((conv => lhs; whnf) <;> exact rfl)); (focus ((conv => lhs; whnf) <;> exact rfl)); (focus ((conv => lhs; whnf) <;> exact rfl)); (focus exact rfl); (focus exact rfl); (focus exact rfl); intro _) | (apply OKx_slit2; (focus ((conv => lhs; whnf) <;> exact rfl)); (focus ((conv => lhs; whnf) <;> exact rfl)); (focus exact rfl); (focus exact rfl); intro _) | (apply OKx_box1; (focus ((conv => lhs; whnf) <;> exact rfl)); (focus exact rfl); intro _) | (apply OKx_func; (focus exact rfl); (focus exact rfl)) | (apply OKx_build3; (focus ((conv => lhs; whnf) <;> exact rfl)); (focus ((conv => lhs; whnf) <;> exact rfl)); (focus ((conv => lhs; whnf) <;> exact rfl)); (focus exact rfl); (focus exact rfl); (focus exact rfl)) | (apply OKx_build2; (focus ((conv => lhs; whnf) <;> exact rfl)); (focus ((conv => lhs; whnf) <;> exact rfl)); (focus exact rfl); (focus exact rfl)) | (apply OKx_stBA; (focus kernel_rfl); (focus exact rfl); (focus exact rfl); (focus exact rfl); (focus first | exact at0 | exact at1 | exact at2 | exact at3 | exact at4 | exact at5 | exact at6 | exact at7); (focus exact rfl); (focus exact rfl); (focus exact rfl)) | (apply OKx_nilCheck; (focus exact rfl)) | (apply OKx_field1; (focus exact rfl); (focus ((conv => lhs; whnf) <;> exact rfl))))
    · refine ⟨by (repeat' (first | refine agree_upd rfl ?_ | exact agree_over | exact agree_refl _ _ | refine agree_over2 rfl ?_)), m - 1, _, by omega, Ent.refl _ _, ?_⟩
      exact ⟨k + 1, by omega, rfl, rfl⟩
    · first | refine bodyQ_r1 (by ((conv => lhs; whnf) <;> exact rfl)) ?_ | refine bodyQ_r2 (by ((conv => lhs; whnf) <;> exact rfl)) (by ((conv => lhs; whnf) <;> exact rfl)) ?_ | refine bodyQ_r3 (by ((conv => lhs; whnf) <;> exact rfl)) (by ((conv => lhs; whnf) <;> exact rfl)) (by ((conv => lhs; whnf) <;> exact rfl)) ?_ | refine bodyQ_r0 ?_ | refine bodyQ_n0 ?_
      exact ⟨_, Ent.nil, rfl, rfl⟩
  all_goals
    first | refine bodyQ_r1 (by ((conv => lhs; whnf) <;> exact rfl)) ?_ | refine bodyQ_r2 (by ((conv => lhs; whnf) <;> exact rfl)) (by ((conv => lhs; whnf) <;> exact rfl)) ?_ | refine bodyQ_r3 (by ((conv => lhs; whnf) <;> exact rfl)) (by ((conv => lhs; whnf) <;> exact rfl)) (by ((conv => lhs; whnf) <;> exact rfl)) ?_ | refine bodyQ_r0 ?_ | refine bodyQ_n0 ?_
    exact ⟨_, Ent.nil, rfl, rfl⟩
#print axioms DatingLess_sat
end Go.Proofs.Ytpbohmddbfaiiaa
