/-
  slices.Clone and slices.Delete of dates. No statement of the seat is proved here.
-/
import Derived.Test.YtpbohmddbfaiiaaFs
import Derived.Test.YtpbohmddbfaiiaaFunc
namespace Go.Proofs.Ytpbohmddbfaiiaa
open Go.RowKit

theorem dcells_len (ds : List Dt) : (dcells ds).length = ds.length * 3 := by
  induction ds with
  | nil => rfl
  | cons d ds ih =>
    rw [show dcells (d :: ds) = [.int .i64 d.node, .int .i64 d.fr, .int .i64 d.to] ++ dcells ds from rfl, List.length_append, ih, List.length_cons]
    simp only [List.length_cons, List.length_nil]
    omega
theorem dcells_one (ds : List Dt) : ∀ v ∈ dcells ds, v.oneCell' = true := by
  intro v hv
  simp only [dcells, List.mem_flatMap] at hv
  obtain ⟨d, _, hv⟩ := hv
  simp only [List.mem_cons, List.not_mem_nil, or_false] at hv
  rcases hv with rfl | rfl | rfl <;> rfl
theorem dcells_app (a b : List Dt) : dcells (a ++ b) = dcells a ++ dcells b := by simp [dcells]
theorem dcells_take (ds : List Dt) (k : Nat) : (dcells ds).take (k * 3) = dcells (ds.take k) := by
  induction ds generalizing k with
  | nil => simp [dcells]
  | cons d ds ih =>
    cases k with
    | zero => simp [dcells]
    | succ k =>
      have := ih k
      rw [show dcells (d :: ds) = [.int .i64 d.node, .int .i64 d.fr, .int .i64 d.to] ++ dcells ds from rfl, List.take_append, List.take_of_length_le (by simp; omega), List.take_succ_cons, show dcells (d :: ds.take k) = [.int .i64 d.node, .int .i64 d.fr, .int .i64 d.to] ++ dcells (ds.take k) from rfl, ← this]
      congr 2
      simp only [List.length_cons, List.length_nil]
      omega
theorem dcells_drop (ds : List Dt) (k : Nat) : (dcells ds).drop (k * 3) = dcells (ds.drop k) := by
  induction ds generalizing k with
  | nil => simp [dcells]
  | cons d ds ih =>
    cases k with
    | zero => simp
    | succ k =>
      have := ih k
      rw [List.drop_succ_cons, ← this, show dcells (d :: ds) = [.int .i64 d.node, .int .i64 d.fr, .int .i64 d.to] ++ dcells ds from rfl, List.drop_append, List.drop_of_length_le (by simp; omega), List.nil_append]
      congr 1
      simp only [List.length_cons, List.length_nil]
      omega

/-- A row of dates. -/
abbrev drow (v : Value) (ds : List Dt) : Res := .row 43 3 v ds.length (dcells ds)
set_option maxRecDepth 100000 in
set_option maxHeartbeats 4000000 in
theorem clone_dat_sat (v : Value) (ds : List Dt) (w : World) (h : Dats w v ds) (h0 : 0 < ds.length) (h8 : ds.length ≤ 1000000) : Sat Try.prog 30 [v] w (fun u L => ∃ g c, u = .slice (some ⟨g, 0, none⟩) ds.length c ∧ L = [drow u ds]) := by
  obtain ⟨hl, ⟨a, cap, rfl, hc⟩, _⟩ := h.sl
  rcases hc with hc | ⟨b, off, rfl, hc⟩
  · omega
  have hlen := dcells_len ds
  refine SatL.of 8 [2] Try.func30 (by kernel_rfl) (by kernel_rfl) rfl rfl rfl rfl ?_
  repeat' (first | (apply OK_seq) | (apply thenQ_n) | (apply OK_region) | (apply OKx_eqNilF; (focus exact rfl); (focus exact rfl)) | (refine OKx_append 0 (M := ds.length) (ys := dcells ds) rfl rfl rfl (dcells_len ds) (fun w1 hp j u hj => ?_) (dcells_one ds) (by omega) (by omega) h0 ?_; rotate_left; intro g c) | (apply OKx_nilK) | (apply OK_block) | (apply blockQ_n) | (apply blockQ_s) | (apply thenQ_e) | (apply blockQ_e; (focus exact rfl)) | (apply thenQ_r) | (apply blockQ_r) | (apply OK_condT; (focus exact rfl)) | (apply OK_condF; (focus exact rfl)) | (apply OK_skip) | (apply OK_exit) | (apply OK_ret) | (apply OKx_move; (focus ((conv => lhs; whnf) <;> exact rfl))) | (apply OKx_assign; (focus ((conv => lhs; whnf) <;> exact rfl))) | (apply OKx_ldB; (focus exact rfl); (focus first | exact at0 | exact at1 | exact at2 | exact at3 | exact at4 | exact at5 | exact at6 | exact at7); (focus exact rfl)) | (apply OKx_ldR; (focus ((conv => lhs; whnf) <;> exact rfl)); (focus with_reducible assumption)) | (apply OKx_ldI; (focus exact rfl); (focus first | exact at0 | exact at1 | exact at2 | exact at3 | exact at4 | exact at5 | exact at6 | exact at7); (focus omega)) | (apply OKx_len; (focus exact rfl)) | (apply OKx_lenR; (focus ((conv => lhs; whnf) <;> exact rfl)); (focus with_reducible assumption)) | (apply OKx_lenR2; (focus ((conv => lhs; whnf) <;> exact rfl)); (focus with_reducible assumption)) | (apply OKx_lenO; (focus ((conv => lhs; whnf) <;> exact rfl)); (focus first | exact at0 | exact at1 | exact at2 | exact at3 | exact at4 | exact at5 | exact at6 | exact at7)) | (apply OKx_lenS; (focus exact rfl)) | (apply OKx_lss; (focus exact rfl); (focus exact rfl); all_goals (intro _; try (exfalso; omega))) | (apply OKx_leq; (focus exact rfl); (focus exact rfl); all_goals (intro _; try (exfalso; omega))) | (apply OKx_gtr; (focus exact rfl); (focus exact rfl); all_goals (intro _; try (exfalso; omega))) | (apply OKx_geq; (focus exact rfl); (focus exact rfl); all_goals (intro _; try (exfalso; omega))) | (apply OKx_eql; (focus exact rfl); (focus exact rfl); all_goals (intro _; try (exfalso; omega))) | (apply OKx_neq; (focus exact rfl); (focus exact rfl); all_goals (intro _; try (exfalso; omega))) | (apply OKx_seql; (focus exact rfl); (focus exact rfl); all_goals intro _) | (apply OKx_sneq; (focus exact rfl); (focus exact rfl); all_goals intro _) | (apply OKx_idxO; (focus exact rfl); (focus exact rfl); (focus omega)) | (apply OKx_idxR; (focus ((conv => lhs; whnf) <;> exact rfl)); (focus with_reducible assumption); (focus exact rfl); (focus omega); intro _ _) | (apply OKx_idxR2; (focus ((conv => lhs; whnf) <;> exact rfl)); (focus with_reducible assumption); (focus exact rfl); (focus omega); intro _ _) | (apply OKx_idxOz; (focus exact rfl); (focus exact rfl); (focus omega); (focus omega)) | (apply OKx_idxRz; (focus ((conv => lhs; whnf) <;> exact rfl)); (focus with_reducible assumption); (focus exact rfl); (focus omega); (focus omega); intro _ _) | (apply OKx_idxS; (focus exact rfl); (focus exact rfl); (focus omega)) | (apply OKx_fldO; (focus exact rfl); (focus exact rfl)) | (apply OKx_fldR; (focus ((conv => lhs; whnf) <;> exact rfl)); (focus with_reducible assumption); (focus decide); intro _ _) | (apply OKx_inc; (focus exact rfl); (focus exact rfl); (focus omega)) | (apply OKx_addN; (focus exact rfl); (focus exact rfl); (focus omega)) | (apply OKx_add; (focus exact rfl); (focus exact rfl); (focus omega); (focus omega)) | (apply OKx_dec; (focus exact rfl); (focus exact rfl); (focus omega); (focus omega)) | (apply OKx_subN; (focus exact rfl); (focus exact rfl); (focus omega); (focus omega)) | (apply OKx_sub; (focus exact rfl); (focus exact rfl); (focus omega); (focus omega)) | (apply OKx_max; (focus exact rfl); (focus exact rfl)) | (apply OKx_min; (focus exact rfl); (focus exact rfl)) | (apply OKx_pickT; (focus exact rfl); (focus ((conv => lhs; whnf) <;> exact rfl))) | (apply OKx_pickF; (focus exact rfl); (focus ((conv => lhs; whnf) <;> exact rfl))) | (apply OKx_guardT; (focus exact rfl); (focus exact rfl)) | (apply OKx_guardF; (focus exact rfl); (focus exact rfl)) | (apply OKx_notT; (focus exact rfl)) | (apply OKx_notF; (focus exact rfl)) | (apply OKx_extract; (focus exact rfl); (focus ((conv => lhs; whnf) <;> exact rfl))) | (apply OKx_boxA; (focus exact rfl); intro _) | (apply OKx_alloc1; intro _) | (apply OKx_allocA; intro _) | (apply OKx_ldBA; (focus exact rfl); (focus first | exact at0 | exact at1 | exact at2 | exact at3 | exact at4 | exact at5 | exact at6 | exact at7); (focus exact rfl)) | (apply OKx_ldRA; (focus ((conv => lhs; whnf) <;> exact rfl)); (focus with_reducible assumption)) | (apply OKx_stI; (focus exact rfl); (focus exact rfl); (focus first | exact at0 | exact at1 | exact at2 | exact at3 | exact at4 | exact at5 | exact at6 | exact at7); (focus omega); (focus exact rfl)) | (apply OKx_stB; (focus exact rfl); (focus ((conv => lhs; whnf) <;> exact rfl)); (focus exact rfl); (focus exact rfl); (focus first | exact at0 | exact at1 | exact at2 | exact at3 | exact at4 | exact at5 | exact at6 | exact at7); (focus exact rfl); (focus exact rfl); (focus exact rfl)) | (apply OKx_ldBo; (focus exact rfl); (focus first | exact at0 | exact at1 | exact at2 | exact at3 | exact at4 | exact at5 | exact at6 | exact at7); (focus omega)) | (apply OKx_stBo; (focus exact rfl); (focus exact rfl); (focus first | exact at0 | exact at1 | exact at2 | exact at3 | exact at4 | exact at5 | exact at6 | exact at7); (focus omega); (focus exact rfl)) | (apply OKx_slit1; (focus ((conv => lhs; whnf) <;> exact rfl)); (focus exact rfl); intro _) | (apply OKx_slit0; intro _) | (apply OKx_slit3; (focus ((conv => lhs; whnf) <;> exact rfl)); (focus ((conv => lhs; whnf) <;> exact rfl)); (focus ((conv => lhs; whnf) <;> exact rfl)); (focus exact rfl); (focus exact rfl); (focus exact rfl); intro _) | (apply OKx_slit2; (focus ((conv => lhs; whnf) <;> exact rfl)); (focus ((conv => lhs; whnf) <;> exact rfl)); (focus exact rfl); (focus exact rfl); intro _) | (apply OKx_box1; (focus ((conv => lhs; whnf) <;> exact rfl)); (focus exact rfl); intro _) | (apply OKx_func; (focus exact rfl); (focus exact rfl)) | (apply OKx_build3; (focus ((conv => lhs; whnf) <;> exact rfl)); (focus ((conv => lhs; whnf) <;> exact rfl)); (focus ((conv => lhs; whnf) <;> exact rfl)); (focus exact rfl); (focus exact rfl); (focus exact rfl)) | (apply OKx_build2; (focus ((conv => lhs; whnf) <;> exact rfl)); (focus ((conv => lhs; whnf) <;> exact rfl)); (focus exact rfl); (focus exact rfl)) | (apply OKx_stBA; (focus kernel_rfl); (focus exact rfl); (focus exact rfl); (focus exact rfl); (focus first | exact at0 | exact at1 | exact at2 | exact at3 | exact at4 | exact at5 | exact at6 | exact at7); (focus exact rfl); (focus exact rfl); (focus exact rfl)) | (apply OKx_nilCheck; (focus exact rfl)) | (apply OKx_field1; (focus exact rfl); (focus ((conv => lhs; whnf) <;> exact rfl))))
  · first | refine bodyQ_r1 (by ((conv => lhs; whnf) <;> exact rfl)) ?_ | refine bodyQ_r2 (by ((conv => lhs; whnf) <;> exact rfl)) (by ((conv => lhs; whnf) <;> exact rfl)) ?_ | refine bodyQ_r3 (by ((conv => lhs; whnf) <;> exact rfl)) (by ((conv => lhs; whnf) <;> exact rfl)) (by ((conv => lhs; whnf) <;> exact rfl)) ?_ | refine bodyQ_r0 ?_ | refine bodyQ_n0 ?_
    refine ⟨_, Ent.refl _ _, g, c, by rw [Nat.zero_add], ?_⟩
    rw [drow, Nat.zero_add]
    rfl
  · have hj2 : j < ds.length * 3 := by rw [← hlen]; exact (List.getElem?_eq_some_iff.1 hj).1
    have h1 := hc j hj2
    rw [hp.below.cell (World.block_lt_of_cell? w _ h1), h1]
    simp [hj]

theorem SatL.caps {P : Program} {f : FuncId} {args : List Value} {w0 : World} {L : List Res} {R : Value → List Res → Prop} (h : SatL P f args w0 L R) :
    SatL P f args w0 L (fun u L' => R u L' ∧ ∀ e sz g n c xs, Res.row e sz (.slice (some ⟨g, 0, none⟩) n c) n xs ∈ L' → n ≤ c) :=
  ⟨h.enters, fun w hp => (h.calls w hp).mono fun e w' ⟨v, L', h1, h2, h3⟩ => ⟨v, L', h1, h2, h3, fun e sz g n c xs hm => by
    have ho : w'.ownsRow w0.heap.size e sz (.slice (some ⟨g, 0, none⟩) n c) n xs := h2.ok _ hm
    rcases ho.2 with ⟨h0, _⟩ | ⟨g', cap, cur, h0, _, _, h4, _⟩
    · cases h0
    · cases h0; exact h4⟩⟩

theorem erase_cells (ds : List Dt) (i : Nat) (hi : i < ds.length) (zs : List Value) (o : Nat) (ho : o = (ds.length - 1) * 3) (hz : zs.length = 3) :
    (lays (lays (dcells ds) (i * 3) (dcells (ds.drop (i + 1)))) o zs).take ((ds.length - 1) * 3) = dcells (ds.eraseIdx i) := by
  have hl := dcells_len ds
  have hd := dcells_len (ds.drop (i + 1))
  rw [List.length_drop] at hd
  subst ho
  have hX : (lays (dcells ds) (i * 3) (dcells (ds.drop (i + 1)))).length = ds.length * 3 := by rw [lays_len, hl]
  have e1 : (dcells ds).take (i * 3) = dcells (ds.take i) := dcells_take ds i
  have l1 := dcells_len (ds.take i)
  rw [List.length_take] at l1
  rw [lays_eq zs _ _ (by rw [hX, hz]; omega), List.append_assoc, List.take_left' (by rw [List.length_take, hX]; omega), lays_eq _ _ _ (by rw [hl, hd]; omega), e1, List.take_left' (by rw [List.length_append, l1, hd]; omega), ← dcells_app, List.eraseIdx_eq_take_drop_succ]

set_option maxRecDepth 100000 in
set_option maxHeartbeats 4000000 in
theorem delete_dat_sat (ds : List Dt) (i g cap : Nat) (Z : List Res) (w : World) (hi : i < ds.length) (hcap : ds.length ≤ cap) (h8 : ds.length ≤ 1000000) :
    SatL Try.prog 29 [.slice (some ⟨g, 0, none⟩) ds.length cap, .int .i64 (i : Int), .int .i64 ((i + 1 : Nat) : Int)] w (drow (.slice (some ⟨g, 0, none⟩) ds.length cap) ds :: Z)
      (fun u L => u = .slice (some ⟨g, 0, none⟩) (ds.eraseIdx i).length cap ∧ L = drow u (ds.eraseIdx i) :: Z) := by
  have hl := dcells_len ds
  have hd := dcells_len (ds.drop (i + 1))
  rw [List.length_drop] at hd
  have he : (ds.eraseIdx i).length = ds.length - 1 := List.length_eraseIdx_of_lt hi
  refine SatL.of 33 [6] Try.func29 (by kernel_rfl) (by kernel_rfl) rfl rfl rfl rfl ?_
  repeat' (first | (apply OK_seq) | (apply thenQ_n) | (apply OK_region) | (refine OKx_slLHM rfl rfl rfl rfl (by omega) (by omega) (by omega) ?_; intro _) | refine OKx_slH rfl rfl (by omega) ?_ | (refine OKx_slL (l := i + 1) rfl rfl (by omega) ?_; intro o ho) | (refine OKx_appRoom 0 (N := ds.length) (M := ds.length - (i + 1)) (ys := dcells (ds.drop (i + 1))) rfl rfl rfl hd (fun w1 hp j u hj => ?_) (dcells_one _) (by omega) (by omega) ?_; rotate_left) | (refine OKx_slLH (l := i + (ds.length - (i + 1))) rfl rfl rfl (by omega) (by omega) ?_; intro o2 ho2) | (refine OKx_clear 0 (N := ds.length) rfl rfl (inferInstance : TAgg Try.prog 43 _ _).zero (by decide) (by omega) (by have := ho2 (by omega); omega) ?_; intro zs hzs) | refine OK_mix [] [0, 1, 2, 3, 4, 5] [] [6, 7] [] (id := 5) (by kernel_rfl) (by kernel_rfl) rfl (Ent.nil) (by ((try simp only [pickO, nthO, List.cons_append, List.nil_append, List.append_nil]) <;> exact rfl)) (by ((try simp only [pickO, nthO, List.cons_append, List.nil_append, List.append_nil]) <;> exact rfl)) (by ((try simp only [pickO, nthO, List.cons_append, List.nil_append, List.append_nil]) <;> exact rfl)) (by ((try simp only [pickO, nthO, List.cons_append, List.nil_append, List.append_nil]) <;> exact rfl)) ?_ | (apply OKx_nilK) | (apply OK_block) | (apply blockQ_n) | (apply blockQ_s) | (apply thenQ_e) | (apply blockQ_e; (focus exact rfl)) | (apply thenQ_r) | (apply blockQ_r) | (apply OK_condT; (focus exact rfl)) | (apply OK_condF; (focus exact rfl)) | (apply OK_skip) | (apply OK_exit) | (apply OK_ret) | (apply OKx_move; (focus ((conv => lhs; whnf) <;> exact rfl))) | (apply OKx_assign; (focus ((conv => lhs; whnf) <;> exact rfl))) | (apply OKx_ldB; (focus exact rfl); (focus first | exact at0 | exact at1 | exact at2 | exact at3 | exact at4 | exact at5 | exact at6 | exact at7); (focus exact rfl)) | (apply OKx_ldR; (focus ((conv => lhs; whnf) <;> exact rfl)); (focus with_reducible assumption)) | (apply OKx_ldI; (focus exact rfl); (focus first | exact at0 | exact at1 | exact at2 | exact at3 | exact at4 | exact at5 | exact at6 | exact at7); (focus omega)) | (apply OKx_len; (focus exact rfl)) | (apply OKx_lenR; (focus ((conv => lhs; whnf) <;> exact rfl)); (focus with_reducible assumption)) | (apply OKx_lenR2; (focus ((conv => lhs; whnf) <;> exact rfl)); (focus with_reducible assumption)) | (apply OKx_lenO; (focus ((conv => lhs; whnf) <;> exact rfl)); (focus first | exact at0 | exact at1 | exact at2 | exact at3 | exact at4 | exact at5 | exact at6 | exact at7)) | (apply OKx_lenS; (focus exact rfl)) | (apply OKx_lss; (focus exact rfl); (focus exact rfl); all_goals (intro _; try (exfalso; omega))) | (apply OKx_leq; (focus exact rfl); (focus exact rfl); all_goals (intro _; try (exfalso; omega))) | (apply OKx_gtr; (focus exact rfl); (focus exact rfl); all_goals (intro _; try (exfalso; omega))) | (apply OKx_geq; (focus exact rfl); (focus exact rfl); all_goals (intro _; try (exfalso; omega))) | (apply OKx_eql; (focus exact rfl); (focus exact rfl); all_goals (intro _; try (exfalso; omega))) | (apply OKx_neq; (focus exact rfl); (focus exact rfl); all_goals (intro _; try (exfalso; omega))) | (apply OKx_seql; (focus exact rfl); (focus exact rfl); all_goals intro _) | (apply OKx_sneq; (focus exact rfl); (focus exact rfl); all_goals intro _) | (apply OKx_idxO; (focus exact rfl); (focus exact rfl); (focus omega)) | (apply OKx_idxR; (focus ((conv => lhs; whnf) <;> exact rfl)); (focus with_reducible assumption); (focus exact rfl); (focus omega); intro _ _) | (apply OKx_idxR2; (focus ((conv => lhs; whnf) <;> exact rfl)); (focus with_reducible assumption); (focus exact rfl); (focus omega); intro _ _) | (apply OKx_idxOz; (focus exact rfl); (focus exact rfl); (focus omega); (focus omega)) | (apply OKx_idxRz; (focus ((conv => lhs; whnf) <;> exact rfl)); (focus with_reducible assumption); (focus exact rfl); (focus omega); (focus omega); intro _ _) | (apply OKx_idxS; (focus exact rfl); (focus exact rfl); (focus omega)) | (apply OKx_fldO; (focus exact rfl); (focus exact rfl)) | (apply OKx_fldR; (focus ((conv => lhs; whnf) <;> exact rfl)); (focus with_reducible assumption); (focus decide); intro _ _) | (apply OKx_inc; (focus exact rfl); (focus exact rfl); (focus omega)) | (apply OKx_addN; (focus exact rfl); (focus exact rfl); (focus omega)) | (apply OKx_add; (focus exact rfl); (focus exact rfl); (focus omega); (focus omega)) | (apply OKx_dec; (focus exact rfl); (focus exact rfl); (focus omega); (focus omega)) | (apply OKx_subN; (focus exact rfl); (focus exact rfl); (focus omega); (focus omega)) | (apply OKx_sub; (focus exact rfl); (focus exact rfl); (focus omega); (focus omega)) | (apply OKx_max; (focus exact rfl); (focus exact rfl)) | (apply OKx_min; (focus exact rfl); (focus exact rfl)) | (apply OKx_pickT; (focus exact rfl); (focus ((conv => lhs; whnf) <;> exact rfl))) | (apply OKx_pickF; (focus exact rfl); (focus ((conv => lhs; whnf) <;> exact rfl))) | (apply OKx_guardT; (focus exact rfl); (focus exact rfl)) | (apply OKx_guardF; (focus exact rfl); (focus exact rfl)) | (apply OKx_notT; (focus exact rfl)) | (apply OKx_notF; (focus exact rfl)) | (apply OKx_extract; (focus exact rfl); (focus ((conv => lhs; whnf) <;> exact rfl))) | (apply OKx_boxA; (focus exact rfl); intro _) | (apply OKx_alloc1; intro _) | (apply OKx_allocA; intro _) | (apply OKx_ldBA; (focus exact rfl); (focus first | exact at0 | exact at1 | exact at2 | exact at3 | exact at4 | exact at5 | exact at6 | exact at7); (focus exact rfl)) | (apply OKx_ldRA; (focus ((conv => lhs; whnf) <;> exact rfl)); (focus with_reducible assumption)) | (apply OKx_stI; (focus exact rfl); (focus exact rfl); (focus first | exact at0 | exact at1 | exact at2 | exact at3 | exact at4 | exact at5 | exact at6 | exact at7); (focus omega); (focus exact rfl)) | (apply OKx_stB; (focus exact rfl); (focus ((conv => lhs; whnf) <;> exact rfl)); (focus exact rfl); (focus exact rfl); (focus first | exact at0 | exact at1 | exact at2 | exact at3 | exact at4 | exact at5 | exact at6 | exact at7); (focus exact rfl); (focus exact rfl); (focus exact rfl)) | (apply OKx_ldBo; (focus exact rfl); (focus first | exact at0 | exact at1 | exact at2 | exact at3 | exact at4 | exact at5 | exact at6 | exact at7); (focus omega)) | (apply OKx_stBo; (focus exact rfl); (focus exact rfl); (focus first | exact at0 | exact at1 | exact at2 | exact at3 | exact at4 | exact at5 | exact at6 | exact at7); (focus omega); (focus exact rfl)) | (apply OKx_slit1; (focus ((conv => lhs; whnf) <;> exact rfl)); (focus exact rfl); intro _) | (apply OKx_slit0; intro _) | (apply OKx_slit3; (focus ((conv => lhs; whnf) <;> exact rfl)); (focus ((conv => lhs; whnf) <;> exact rfl)); (focus ((conv => lhs; whnf) <;> exact rfl)); (focus exact rfl); (focus exact rfl); (focus exact rfl); intro _) | (apply OKx_slit2; (focus ((conv => lhs; whnf) <;> exact rfl)); (focus ((conv => lhs; whnf) <;> exact rfl)); (focus exact rfl); (focus exact rfl); intro _) | (apply OKx_box1; (focus ((conv => lhs; whnf) <;> exact rfl)); (focus exact rfl); intro _) | (apply OKx_func; (focus exact rfl); (focus exact rfl)) | (apply OKx_build3; (focus ((conv => lhs; whnf) <;> exact rfl)); (focus ((conv => lhs; whnf) <;> exact rfl)); (focus ((conv => lhs; whnf) <;> exact rfl)); (focus exact rfl); (focus exact rfl); (focus exact rfl)) | (apply OKx_build2; (focus ((conv => lhs; whnf) <;> exact rfl)); (focus ((conv => lhs; whnf) <;> exact rfl)); (focus exact rfl); (focus exact rfl)) | (apply OKx_stBA; (focus kernel_rfl); (focus exact rfl); (focus exact rfl); (focus exact rfl); (focus first | exact at0 | exact at1 | exact at2 | exact at3 | exact at4 | exact at5 | exact at6 | exact at7); (focus exact rfl); (focus exact rfl); (focus exact rfl)) | (apply OKx_nilCheck; (focus exact rfl)) | (apply OKx_field1; (focus exact rfl); (focus ((conv => lhs; whnf) <;> exact rfl))))
  · first | refine bodyQ_r1 (by ((conv => lhs; whnf) <;> exact rfl)) ?_ | refine bodyQ_r2 (by ((conv => lhs; whnf) <;> exact rfl)) (by ((conv => lhs; whnf) <;> exact rfl)) ?_ | refine bodyQ_r3 (by ((conv => lhs; whnf) <;> exact rfl)) (by ((conv => lhs; whnf) <;> exact rfl)) (by ((conv => lhs; whnf) <;> exact rfl)) ?_ | refine bodyQ_r0 ?_ | refine bodyQ_n0 ?_
    refine ⟨_, Ent.cut 0 rfl (ds.length - 1) (by omega), by rw [he, show i + (ds.length - (i + 1)) = ds.length - 1 by omega], ?_⟩
    have h3 := erase_cells ds i hi zs o2 (by have := ho2 (by omega); omega) (by omega)
    rw [show i + (ds.length - (i + 1)) = ds.length - 1 by omega]
    show (Res.row 43 3 _ (ds.length - 1) (List.take ((ds.length - 1) * 3) _) :: Z) = (Res.row 43 3 _ (ds.eraseIdx i).length (dcells (ds.eraseIdx i)) :: Z)
    rw [h3, he]
  · have hj2 : j < (ds.length - (i + 1)) * 3 := by rw [← hd]; exact (List.getElem?_eq_some_iff.1 hj).1
    have ho' := ho (by omega)
    rw [(hp.rowAt 0 rfl).1 _ (by omega), ho', ← hj, ← dcells_drop, List.getElem?_drop]
    congr 1
    omega
end Go.Proofs.Ytpbohmddbfaiiaa
