/-
  Part 27 of the proof: Tl33, Im33, Py33. No statement of the seat is proved here.
-/
import Derived.Test.YtpknpbeiifjmgaaGreatMHPs3326
import Derived.MapKept
import Derived.RangeFuncOwn
namespace Go.Proofs.YtpknpbeiifjmgaaGreat
open Go.RowKit
def TlR (t : Tre) (st : List Int) (u : Value) (L : List Res) : Prop :=
  (¬ (gr33 t st = false ∧ chk33 t st = 0) ∧ u = .tuple #[.slice none 0 0, .slice none 0 0, .bool false] ∧ L = []) ∨
  ((gr33 t st = false ∧ chk33 t st = 0) ∧ ∃ la lc na nc, u = .tuple #[.slice la (lvs t).length lc, .slice na (nmT t).length nc, .bool true] ∧ ∀ w0 w, Hp w0.heap.size w0 w L → Strs w (.slice na (nmT t).length nc) (nmT t))
theorem chk33_zero {t : Tre} {st : List Int} (h : chk33 t st = 0) : treC t = 0 ∧ knwE st (lvs t).length (-1) 4 = 0 := by
  unfold chk33 at h
  by_cases hc : treC t = 0
  · rw [if_pos hc] at h; exact ⟨hc, h⟩
  · rw [if_neg hc] at h;omega
theorem knwE_zero {st : List Int} {n : Nat} {lo hi : Int} (h : knwE st n lo hi = 0) : st.length = n ∧ ∀ x ∈ st, lo ≤ x ∧ x < hi := by
  unfold knwE at h
  split at h
  · omega
  · rename_i h1
    split at h
    · omega
    · rename_i h2
      refine ⟨by omega, fun x hx => ?_⟩
      rw [Bool.not_eq_true, List.any_eq_false] at h2
      have := h2 x hx
      unfold badK at this
      simp at this
      omega
set_option maxRecDepth 100000 in
set_option maxHeartbeats 4000000 in
theorem top33L_sat (v sv : Value) (t : Tre) (st : List Int) (w : World) (h : Tri w v t) (hS : Ints w sv st) : Sat Tryz.prog 4 [v, sv] w (TlR t st) := by
  have ht := h
  obtain ⟨pv, nv, rfl, hP, hN⟩ := h
  have hnv := hN.sl
  have hsv := hS.sl
  have hsb := hsv.bound
  have hU : ∀ w1 : World, Sat Tryz.prog 16 [.int .i64 4] w1 (fun u L => ∃ a c, u = .tuple #[.slice a 4 c, .int .i64 0] ∧ ∀ w0 w, Hp w0.heap.size w0 w L → Tabs w (.slice a 4 c) (uniL 4)) := fun w1 => rUnit_sat 4 w1 (by omega) (by omega)
  have hG := fun w1 (hb : Below w.heap.size w w1) cv (hC : Tabs w1 cv (uniL 4)) => rGreat33_sat _ sv cv t st w1 (ht.below hb) (hS.below hb) hC
  have hK := fun w1 (hb : Below w.heap.size w w1) cv (hC : Tabs w1 cv (uniL 4)) => rCheck33_sat _ sv cv t st w1 (ht.below hb) (hS.below hb) hC
  by_cases hok : gr33 t st = false ∧ chk33 t st = 0
  rotate_left
  · refine SatL.ofR 69 [.tmp 4, .tmp 5, .tmp 6] Tryz.func4 (by kernel_rfl) (by kernel_rfl) rfl rfl rfl ?_
    repeat' (first|(apply OK_seq)|(apply thenQ_n)|(apply OK_region)|(apply OKx_gc 16;exact rfl; refine OKx_call (f := 16) rfl rfl (fun w1 hp => hU w1) ?_; rintro _ Z ⟨ua, uc, rfl, hZ⟩; refine OKx_ent (Ent.perm (List.perm_append_comm (l₁ := Z))) ?_; simp only [List.cons_append, List.nil_append])|(apply OKx_gc 17;exact rfl; refine OKx_callB (f := 17) (b := gr33 t st) rfl rfl rfl (fun w1 hp => hG w1 hp.below _ (hZ w w1 hp.drop1)) ?_ ?_ <;> intro hg)|(apply OKx_gc 18;exact rfl; refine OKx_callV (f := 18) rfl rfl rfl (fun w1 hp => hK w1 hp.below _ (hZ w w1 hp.drop1)) ?_)|(apply OKx_nilK)|(apply OK_block)|(apply blockQ_n)|(apply blockQ_s)|(apply thenQ_e)|(apply blockQ_e;exact rfl)|(apply thenQ_r)|(apply blockQ_r)|(apply OK_condT;exact rfl)|(apply OK_condF;exact rfl)|(apply OK_skip)|(apply OK_exit)|(apply OK_ret)|(apply OKx_move;(conv=>lhs;whnf)<;>exact rfl)|(apply OKx_assign;(conv=>lhs;whnf)<;>exact rfl)|(apply OKx_ldB;exact rfl;(first | exact at0|exact at1|exact at2|exact at3|exact at4|exact at5|exact at6|exact at7);exact rfl)|(apply OKx_ldR;(conv=>lhs;whnf)<;>exact rfl;(with_reducible assumption))|(apply OKx_ldI;exact rfl;(first | exact at0|exact at1|exact at2|exact at3|exact at4|exact at5|exact at6|exact at7);omega)|(apply OKx_len;exact rfl)|(apply OKx_lenR;(conv=>lhs;whnf)<;>exact rfl;(with_reducible assumption))|(apply OKx_lenR2;(conv=>lhs;whnf)<;>exact rfl;(with_reducible assumption))|(apply OKx_lenO;(conv=>lhs;whnf)<;>exact rfl;(first | exact at0|exact at1|exact at2|exact at3|exact at4|exact at5|exact at6|exact at7))|(apply OKx_lss;exact rfl;exact rfl;all_goals (intro _; try (exfalso;omega)))|(apply OKx_geq;exact rfl;exact rfl;all_goals (intro _; try (exfalso;omega)))|(apply OKx_neq;exact rfl;exact rfl;all_goals (intro _; try (exfalso;omega)))|(apply OKx_idxO;exact rfl;exact rfl;omega)|(apply OKx_idxR;(conv=>lhs;whnf)<;>exact rfl;(with_reducible assumption);exact rfl;omega;intro _ _)|(apply OKx_idxOz;exact rfl;exact rfl;omega;omega)|(apply OKx_idxRz;(conv=>lhs;whnf)<;>exact rfl;(with_reducible assumption);exact rfl;omega;omega;intro _ _)|(apply OKx_fldO;exact rfl;exact rfl)|(apply OKx_fldR;(conv=>lhs;whnf)<;>exact rfl;(with_reducible assumption); decide;intro _ _)|(apply OKx_inc;exact rfl;exact rfl;omega)|(apply OKx_addN;exact rfl;exact rfl;omega)|(apply OKx_add;exact rfl;exact rfl;omega;omega)|(apply OKx_pickT;exact rfl;(conv=>lhs;whnf)<;>exact rfl)|(apply OKx_pickF;exact rfl;(conv=>lhs;whnf)<;>exact rfl)|(apply OKx_guardT;exact rfl;exact rfl)|(apply OKx_guardF;exact rfl;exact rfl)|(apply OKx_guardU;exact rfl;exact rfl)|(apply OKx_extract;exact rfl;(conv=>lhs;whnf)<;>exact rfl)|(apply OKx_boxA;exact rfl;intro _)|(apply OKx_ldBA;exact rfl;(first | exact at0|exact at1|exact at2|exact at3|exact at4|exact at5|exact at6|exact at7);exact rfl)|(apply OKx_ldRA;(conv=>lhs;whnf)<;>exact rfl;(with_reducible assumption))|(apply OKx_slit1;(conv=>lhs;whnf)<;>exact rfl;exact rfl;intro _))
    all_goals (try (exfalso; exact hok ⟨hg, by omega⟩))
    all_goals
      refine bodyR_r3 (by first | exact resIs_tmp (by ((conv=>lhs;whnf)<;>exact rfl)) | exact resIs_cellA 0 rfl rfl rfl | exact resIs_cellA 1 rfl rfl rfl | exact resIs_cellA 2 rfl rfl rfl | exact resIs_cellA 3 rfl rfl rfl | exact resIs_cellA 4 rfl rfl rfl | exact resIs_cellA 5 rfl rfl rfl | exact resIs_cellA 6 rfl rfl rfl | exact resIs_cellA 7 rfl rfl rfl | exact resIs_cellA 8 rfl rfl rfl | exact resIs_cellA 9 rfl rfl rfl) (by first | exact resIs_tmp (by ((conv=>lhs;whnf)<;>exact rfl)) | exact resIs_cellA 0 rfl rfl rfl | exact resIs_cellA 1 rfl rfl rfl | exact resIs_cellA 2 rfl rfl rfl | exact resIs_cellA 3 rfl rfl rfl | exact resIs_cellA 4 rfl rfl rfl | exact resIs_cellA 5 rfl rfl rfl | exact resIs_cellA 6 rfl rfl rfl | exact resIs_cellA 7 rfl rfl rfl | exact resIs_cellA 8 rfl rfl rfl | exact resIs_cellA 9 rfl rfl rfl) (by first | exact resIs_tmp (by ((conv=>lhs;whnf)<;>exact rfl)) | exact resIs_cellA 0 rfl rfl rfl | exact resIs_cellA 1 rfl rfl rfl | exact resIs_cellA 2 rfl rfl rfl | exact resIs_cellA 3 rfl rfl rfl | exact resIs_cellA 4 rfl rfl rfl | exact resIs_cellA 5 rfl rfl rfl | exact resIs_cellA 6 rfl rfl rfl | exact resIs_cellA 7 rfl rfl rfl | exact resIs_cellA 8 rfl rfl rfl | exact resIs_cellA 9 rfl rfl rfl) ?_
      exact ⟨_, Ent.nil, .inl ⟨hok, rfl, rfl⟩⟩
  obtain ⟨hc, hkn⟩ := chk33_zero hok.2
  obtain ⟨hsl, _⟩ := knwE_zero hkn
  obtain ⟨l0, l64, hln, _, _⟩ := treC_len hc
  have hlf := lvs_few t
  have hnl := nmT_len t
  rw [hok.1] at hG
  rw [hok.2] at hK
  have hL3 : ∀ w1, Below w.heap.size w w1 → Sat Tryz.prog 19 [.agg #[pv, nv]] w1 (fun u L => ∃ a c, u = .tuple #[.slice a (lvs t).length c, .int .i64 0] ∧ (0 < (lvs t).length → ∃ g, a = some ⟨g, 0, none⟩) ∧ L = [.row 3 1 (.slice a (lvs t).length c) (lvs t).length (ints (lvs t))]) := fun w1 hb =>
    (Leaves_sat _ t w1 (ht.below hb)).mono (by
      rintro u L (⟨h1, _⟩ | ⟨_, a, n, c, h2, h3, h5, h4⟩)
      · exact absurd hc h1
      · subst h2; exact ⟨a, c, h3, h5, h4⟩)
  refine SatL.ofR 69 [.tmp 4, .tmp 5, .tmp 6] Tryz.func4 (by kernel_rfl) (by kernel_rfl) rfl rfl rfl ?_
  repeat' (first|(apply OK_seq)|(apply thenQ_n)|(apply OK_region)|(apply OKx_gc 16;exact rfl; refine OKx_call (f := 16) rfl rfl (fun w1 hp => hU w1) ?_; rintro _ Z ⟨ua, uc, rfl, hZ⟩; refine OKx_ent (Ent.perm (List.perm_append_comm (l₁ := Z))) ?_; simp only [List.cons_append, List.nil_append])|(apply OKx_gc 17;exact rfl; refine OKx_callV (f := 17) rfl rfl rfl (fun w1 hp => hG w1 hp.below _ (hZ w w1 hp.drop1)) ?_)|(apply OKx_gc 18;exact rfl; refine OKx_callV (f := 18) rfl rfl rfl (fun w1 hp => hK w1 hp.below _ (hZ w w1 hp.drop1)) ?_)|(apply OKx_gc 19;exact rfl; refine OKx_call (f := 19) rfl rfl (fun w1 hp => hL3 w1 hp.below) ?_; rintro _ _ ⟨la, lc, rfl, hla, rfl⟩; simp only [List.cons_append, List.nil_append])|(apply OKx_nilK)|(apply OK_block)|(apply blockQ_n)|(apply blockQ_s)|(apply thenQ_e)|(apply blockQ_e;exact rfl)|(apply thenQ_r)|(apply blockQ_r)|(apply OK_condT;exact rfl)|(apply OK_condF;exact rfl)|(apply OK_skip)|(apply OK_exit)|(apply OK_ret)|(apply OKx_move;(conv=>lhs;whnf)<;>exact rfl)|(apply OKx_assign;(conv=>lhs;whnf)<;>exact rfl)|(apply OKx_ldB;exact rfl;(first | exact at0|exact at1|exact at2|exact at3|exact at4|exact at5|exact at6|exact at7);exact rfl)|(apply OKx_ldR;(conv=>lhs;whnf)<;>exact rfl;(with_reducible assumption))|(apply OKx_ldI;exact rfl;(first | exact at0|exact at1|exact at2|exact at3|exact at4|exact at5|exact at6|exact at7);omega)|(apply OKx_len;exact rfl)|(apply OKx_lenR;(conv=>lhs;whnf)<;>exact rfl;(with_reducible assumption))|(apply OKx_lenR2;(conv=>lhs;whnf)<;>exact rfl;(with_reducible assumption))|(apply OKx_lenO;(conv=>lhs;whnf)<;>exact rfl;(first | exact at0|exact at1|exact at2|exact at3|exact at4|exact at5|exact at6|exact at7))|(apply OKx_lss;exact rfl;exact rfl;all_goals (intro _; try (exfalso;omega)))|(apply OKx_geq;exact rfl;exact rfl;all_goals (intro _; try (exfalso;omega)))|(apply OKx_neq;exact rfl;exact rfl;all_goals (intro _; try (exfalso;omega)))|(apply OKx_idxO;exact rfl;exact rfl;omega)|(apply OKx_idxR;(conv=>lhs;whnf)<;>exact rfl;(with_reducible assumption);exact rfl;omega;intro _ _)|(apply OKx_idxOz;exact rfl;exact rfl;omega;omega)|(apply OKx_idxRz;(conv=>lhs;whnf)<;>exact rfl;(with_reducible assumption);exact rfl;omega;omega;intro _ _)|(apply OKx_fldO;exact rfl;exact rfl)|(apply OKx_fldR;(conv=>lhs;whnf)<;>exact rfl;(with_reducible assumption); decide;intro _ _)|(apply OKx_inc;exact rfl;exact rfl;omega)|(apply OKx_addN;exact rfl;exact rfl;omega)|(apply OKx_add;exact rfl;exact rfl;omega;omega)|(apply OKx_pickT;exact rfl;(conv=>lhs;whnf)<;>exact rfl)|(apply OKx_pickF;exact rfl;(conv=>lhs;whnf)<;>exact rfl)|(apply OKx_guardT;exact rfl;exact rfl)|(apply OKx_guardF;exact rfl;exact rfl)|(apply OKx_guardU;exact rfl;exact rfl)|(apply OKx_extract;exact rfl;(conv=>lhs;whnf)<;>exact rfl)|(apply OKx_boxA;exact rfl;intro _)|(apply OKx_ldBA;exact rfl;(first | exact at0|exact at1|exact at2|exact at3|exact at4|exact at5|exact at6|exact at7);exact rfl)|(apply OKx_ldRA;(conv=>lhs;whnf)<;>exact rfl;(with_reducible assumption))|(apply OKx_slit1;(conv=>lhs;whnf)<;>exact rfl;exact rfl;intro _))
  rename_i g2 _ _ _
  refine OK_loop2 11 45 [4, 5, 6, 11, 13, 45, 46, 47, 48, 49, 50, 51, 52, 53, 54, 55, 56, 57, 58, 59, 60, 61, 62, 63, 64, 65, 66] (fun m u v L => ∃ (k : Nat) (a : Option Addr) (c : Nat), k + m = (lvs t).length ∧ u = .slice a k c ∧ v = .int .i64 (k : Int) ∧ L = [.row 9 1 (.slice a k c) k (strs ((nmT t).take k)), .row 3 1 (.slice la (lvs t).length lc) (lvs t).length (ints (lvs t)), .box 25 g2 [pv, nv]]) (lvs t).length _
    ((Ent.pickT [_, _] Z [0, 1] rfl).trans ((Ent.sub (List.sublist_append_left _ _)).trans (Ent.mk fun w1 hp => hp.nil 9 1))) ⟨0, none, 0, by omega, rfl, rfl, rfl⟩ ?_
  rintro m u v L G ⟨k, a, c, hm, rfl, rfl, rfl⟩
  by_cases hk : k < (lvs t).length
  · obtain ⟨q, hq, hqn⟩ := lvs_rng2 t k hk
    obtain ⟨gl, rfl⟩ := hla (by omega)
    have hat := nmT_at t k q hk hq
    have htk : (nmT t).take (k + 1) = (nmT t).take k ++ [t.names.getD q ByteArray.empty] := by
      have hkn : k < (nmT t).length := by omega
      rw [← hat, List.take_succ_eq_append_getElem hkn, getD_lt _ _ _ hkn]
    repeat' (first|(apply OK_seq)|(apply thenQ_n)|(apply OK_region)|(apply OKx_gl; refine OKx_ldI 1 rfl rfl (by omega) ?_; rw [hq])|(apply OKx_gb; refine OKx_append1 1 0 rfl rfl rfl rfl rfl (by omega) (by omega) ?_; intro g5 c5; simp only [List.set_cons_succ, List.set_cons_zero])|(apply OKx_nilK)|(apply OK_block)|(apply blockQ_n)|(apply blockQ_s)|(apply thenQ_e)|(apply blockQ_e;exact rfl)|(apply thenQ_r)|(apply blockQ_r)|(apply OK_condT;exact rfl)|(apply OK_condF;exact rfl)|(apply OK_skip)|(apply OK_exit)|(apply OK_ret)|(apply OKx_move;(conv=>lhs;whnf)<;>exact rfl)|(apply OKx_assign;(conv=>lhs;whnf)<;>exact rfl)|(apply OKx_ldB;exact rfl;(first | exact at0|exact at1|exact at2|exact at3|exact at4|exact at5|exact at6|exact at7);exact rfl)|(apply OKx_ldR;(conv=>lhs;whnf)<;>exact rfl;(with_reducible assumption))|(apply OKx_ldI;exact rfl;(first | exact at0|exact at1|exact at2|exact at3|exact at4|exact at5|exact at6|exact at7);omega)|(apply OKx_len;exact rfl)|(apply OKx_lenR;(conv=>lhs;whnf)<;>exact rfl;(with_reducible assumption))|(apply OKx_lenR2;(conv=>lhs;whnf)<;>exact rfl;(with_reducible assumption))|(apply OKx_lenO;(conv=>lhs;whnf)<;>exact rfl;(first | exact at0|exact at1|exact at2|exact at3|exact at4|exact at5|exact at6|exact at7))|(apply OKx_lss;exact rfl;exact rfl;all_goals (intro _; try (exfalso;omega)))|(apply OKx_geq;exact rfl;exact rfl;all_goals (intro _; try (exfalso;omega)))|(apply OKx_neq;exact rfl;exact rfl;all_goals (intro _; try (exfalso;omega)))|(apply OKx_idxO;exact rfl;exact rfl;omega)|(apply OKx_idxR;(conv=>lhs;whnf)<;>exact rfl;(with_reducible assumption);exact rfl;omega;intro _ _)|(apply OKx_idxOz;exact rfl;exact rfl;omega;omega)|(apply OKx_idxRz;(conv=>lhs;whnf)<;>exact rfl;(with_reducible assumption);exact rfl;omega;omega;intro _ _)|(apply OKx_fldO;exact rfl;exact rfl)|(apply OKx_fldR;(conv=>lhs;whnf)<;>exact rfl;(with_reducible assumption); decide;intro _ _)|(apply OKx_inc;exact rfl;exact rfl;omega)|(apply OKx_addN;exact rfl;exact rfl;omega)|(apply OKx_add;exact rfl;exact rfl;omega;omega)|(apply OKx_pickT;exact rfl;(conv=>lhs;whnf)<;>exact rfl)|(apply OKx_pickF;exact rfl;(conv=>lhs;whnf)<;>exact rfl)|(apply OKx_guardT;exact rfl;exact rfl)|(apply OKx_guardF;exact rfl;exact rfl)|(apply OKx_guardU;exact rfl;exact rfl)|(apply OKx_extract;exact rfl;(conv=>lhs;whnf)<;>exact rfl)|(apply OKx_boxA;exact rfl;intro _)|(apply OKx_ldBA;exact rfl;(first | exact at0|exact at1|exact at2|exact at3|exact at4|exact at5|exact at6|exact at7);exact rfl)|(apply OKx_ldRA;(conv=>lhs;whnf)<;>exact rfl;(with_reducible assumption))|(apply OKx_slit1;(conv=>lhs;whnf)<;>exact rfl;exact rfl;intro _))
    refine ⟨by (repeat' (first | refine agree_upd rfl ?_ | exact agree_over | exact agree_refl _ _ | refine agree_over2 rfl ?_)), m - 1, _, by omega, Ent.sub (List.sublist_cons_self _ _), ?_⟩
    exact ⟨k + 1, some ⟨g5, 0, none⟩, c5, by omega, rfl, rfl, by rw [htk]; simp [strs]⟩
  · obtain rfl : k = (lvs t).length := by omega
    repeat' (first|(apply OK_seq)|(apply thenQ_n)|(apply OK_region)|(apply OKx_nilK)|(apply OK_block)|(apply blockQ_n)|(apply blockQ_s)|(apply thenQ_e)|(apply blockQ_e;exact rfl)|(apply thenQ_r)|(apply blockQ_r)|(apply OK_condT;exact rfl)|(apply OK_condF;exact rfl)|(apply OK_skip)|(apply OK_exit)|(apply OK_ret)|(apply OKx_move;(conv=>lhs;whnf)<;>exact rfl)|(apply OKx_assign;(conv=>lhs;whnf)<;>exact rfl)|(apply OKx_ldB;exact rfl;(first | exact at0|exact at1|exact at2|exact at3|exact at4|exact at5|exact at6|exact at7);exact rfl)|(apply OKx_ldR;(conv=>lhs;whnf)<;>exact rfl;(with_reducible assumption))|(apply OKx_ldI;exact rfl;(first | exact at0|exact at1|exact at2|exact at3|exact at4|exact at5|exact at6|exact at7);omega)|(apply OKx_len;exact rfl)|(apply OKx_lenR;(conv=>lhs;whnf)<;>exact rfl;(with_reducible assumption))|(apply OKx_lenR2;(conv=>lhs;whnf)<;>exact rfl;(with_reducible assumption))|(apply OKx_lenO;(conv=>lhs;whnf)<;>exact rfl;(first | exact at0|exact at1|exact at2|exact at3|exact at4|exact at5|exact at6|exact at7))|(apply OKx_lss;exact rfl;exact rfl;all_goals (intro _; try (exfalso;omega)))|(apply OKx_geq;exact rfl;exact rfl;all_goals (intro _; try (exfalso;omega)))|(apply OKx_neq;exact rfl;exact rfl;all_goals (intro _; try (exfalso;omega)))|(apply OKx_idxO;exact rfl;exact rfl;omega)|(apply OKx_idxR;(conv=>lhs;whnf)<;>exact rfl;(with_reducible assumption);exact rfl;omega;intro _ _)|(apply OKx_idxOz;exact rfl;exact rfl;omega;omega)|(apply OKx_idxRz;(conv=>lhs;whnf)<;>exact rfl;(with_reducible assumption);exact rfl;omega;omega;intro _ _)|(apply OKx_fldO;exact rfl;exact rfl)|(apply OKx_fldR;(conv=>lhs;whnf)<;>exact rfl;(with_reducible assumption); decide;intro _ _)|(apply OKx_inc;exact rfl;exact rfl;omega)|(apply OKx_addN;exact rfl;exact rfl;omega)|(apply OKx_add;exact rfl;exact rfl;omega;omega)|(apply OKx_pickT;exact rfl;(conv=>lhs;whnf)<;>exact rfl)|(apply OKx_pickF;exact rfl;(conv=>lhs;whnf)<;>exact rfl)|(apply OKx_guardT;exact rfl;exact rfl)|(apply OKx_guardF;exact rfl;exact rfl)|(apply OKx_guardU;exact rfl;exact rfl)|(apply OKx_extract;exact rfl;(conv=>lhs;whnf)<;>exact rfl)|(apply OKx_boxA;exact rfl;intro _)|(apply OKx_ldBA;exact rfl;(first | exact at0|exact at1|exact at2|exact at3|exact at4|exact at5|exact at6|exact at7);exact rfl)|(apply OKx_ldRA;(conv=>lhs;whnf)<;>exact rfl;(with_reducible assumption))|(apply OKx_slit1;(conv=>lhs;whnf)<;>exact rfl;exact rfl;intro _))
    refine bodyR_r3 (by first | exact resIs_tmp (by ((conv=>lhs;whnf)<;>exact rfl)) | exact resIs_cellA 0 rfl rfl rfl | exact resIs_cellA 1 rfl rfl rfl | exact resIs_cellA 2 rfl rfl rfl | exact resIs_cellA 3 rfl rfl rfl | exact resIs_cellA 4 rfl rfl rfl | exact resIs_cellA 5 rfl rfl rfl | exact resIs_cellA 6 rfl rfl rfl | exact resIs_cellA 7 rfl rfl rfl | exact resIs_cellA 8 rfl rfl rfl | exact resIs_cellA 9 rfl rfl rfl) (by first | exact resIs_tmp (by ((conv=>lhs;whnf)<;>exact rfl)) | exact resIs_cellA 0 rfl rfl rfl | exact resIs_cellA 1 rfl rfl rfl | exact resIs_cellA 2 rfl rfl rfl | exact resIs_cellA 3 rfl rfl rfl | exact resIs_cellA 4 rfl rfl rfl | exact resIs_cellA 5 rfl rfl rfl | exact resIs_cellA 6 rfl rfl rfl | exact resIs_cellA 7 rfl rfl rfl | exact resIs_cellA 8 rfl rfl rfl | exact resIs_cellA 9 rfl rfl rfl) (by first | exact resIs_tmp (by ((conv=>lhs;whnf)<;>exact rfl)) | exact resIs_cellA 0 rfl rfl rfl | exact resIs_cellA 1 rfl rfl rfl | exact resIs_cellA 2 rfl rfl rfl | exact resIs_cellA 3 rfl rfl rfl | exact resIs_cellA 4 rfl rfl rfl | exact resIs_cellA 5 rfl rfl rfl | exact resIs_cellA 6 rfl rfl rfl | exact resIs_cellA 7 rfl rfl rfl | exact resIs_cellA 8 rfl rfl rfl | exact resIs_cellA 9 rfl rfl rfl) ?_
    have htk : (nmT t).take (lvs t).length = nmT t := List.take_of_length_le (by omega)
    have hsz : ∀ s ∈ nmT t, s.size ≤ 140737488355328 := fun s hs => by
      unfold nmT at hs
      obtain ⟨x, hx, rfl⟩ := List.mem_map.1 hs
      obtain ⟨p, hp, e⟩ := List.getElem_of_mem hx
      obtain ⟨q, hq, hqn⟩ := lvs_rng2 t p hp
      rw [getD_lt _ _ _ hp, e] at hq
      rw [hq]
      exact hN.2 _ (getD_mem t.names q ByteArray.empty hqn)
    refine ⟨_, Ent.pick [0] rfl, .inr ⟨hok, la, lc, a, c, by rw [hnl], fun w0 w1 hp => ?_⟩⟩
    rw [hnl]
    have h9 := hp.strs 0 (xs := nmT t) (by rw [htk]; rfl) (by omega) hsz
    exact h9
end Go.Proofs.YtpknpbeiifjmgaaGreat
namespace Go.Proofs.YtpknpbeiifjmgaaGreat
open Go.RowKit Go.Maps
def fndI : List (Int × Int) → Int → Nat → Option (Nat × Value)
  | [], _, _ => none
  | p :: ps, q, i => if q = p.1 then some (i, .int .i64 p.2) else fndI ps q (i + 1)
def updI : List (Int × Int) → Int → Int → List (Int × Int)
  | [], q, v => [(q, v)]
  | p :: ps, q, v => if q = p.1 then (q, v) :: ps else p :: updI ps q v
def getI (ps : List (Int × Int)) (q : Int) : Int := match ps.find? (fun p => decide (q = p.1)) with
  | some p => p.2
  | none => 0
def entI (ps : List (Int × Int)) : List (Value × Value) := ps.map fun p => (.int .i64 p.1, .int .i64 p.2)
def IMIs (ps : List (Int × Int)) (o : Obj) : Prop := ∃ es clock, o = .map es clock ∧ es.toList.map (fun e => (e.key, e.val)) = entI ps
theorem fndI_get (q : Int) : ∀ (ps : List (Int × Int)) (i : Nat), (fndI ps q i = none ∧ getI ps q = 0 ∧ ∀ p ∈ ps, q ≠ p.1) ∨ ∃ j, fndI ps q i = some (i + j, .int .i64 (getI ps q)) ∧ j < ps.length ∧ (ps.getD j (0, 0)).1 = q
  | [], i => .inl ⟨rfl, rfl, fun p hp => absurd hp List.not_mem_nil⟩
  | p :: ps, i => by
    unfold fndI getI
    by_cases h : q = p.1
    · right
      refine ⟨0, ?_, by simp, by simpa using h.symm⟩
      rw [if_pos h, List.find?_cons_of_pos (by simpa using h)]
      rfl
    · rw [if_neg h, List.find?_cons_of_neg (by simpa using h)]
      rcases fndI_get q ps (i + 1) with ⟨h1, h2, h3⟩ | ⟨j, h1, h2, h3⟩
      · left
        refine ⟨h1, h2, fun p' hp => ?_⟩
        rcases List.mem_cons.1 hp with rfl | hp
        · exact h
        · exact h3 p' hp
      · right
        refine ⟨j + 1, ?_, by simpa using h2, by simpa using h3⟩
        rw [h1]
        unfold getI
        rw [show i + 1 + j = i + (j + 1) by omega]
section
variable {P : Program} {w : World} {kt : TypeId}
theorem findNow_int (q : Int) : ∀ (es : List MapEntry) (ps : List (Int × Int)) (i : Nat), es.map (fun e => (e.key, e.val)) = entI ps → Instr.findNow (.int .i64) (.int .i64 q) es i = some (fndI ps q i)
  | [], [], i, _ => rfl
  | [], p :: ps, i, h => by simp [entI] at h
  | _ :: _, [], _, h => by simp [entI] at h
  | e :: es, p :: ps, i, h => by
    simp only [entI, List.map_cons, List.cons.injEq, Prod.mk.injEq] at h
    obtain ⟨⟨h1, h2⟩, h3⟩ := h
    have ih := findNow_int q es ps (i + 1) h3
    unfold Instr.findNow fndI
    rw [h1, h2]
    simp only [Instr.sameNow, if_true]
    by_cases hq : q = p.1
    · have hb : (q == p.1) = true := by simpa using hq
      simp only [hb]
      rw [if_pos hq]
    · have hb : (q == p.1) = false := by simpa using hq
      simp only [hb]
      rw [if_neg hq]
      exact ih
theorem run_find_int (hk : P.underlying kt = some (.int .i64)) (q : Int) {es : List MapEntry} {ps : List (Int × Int)} (h : es.map (fun e => (e.key, e.val)) = entI ps) : (Instr.findKey kt (.int .i64 q) es).run P w = .ok (fndI ps q 0) w := by
  unfold Instr.findKey
  simp [run_underlying hk, findNow_int q es ps 0 h, Result.andThen]
theorem run_checkKey_int (hk : P.underlying kt = some (.int .i64)) (em : Bool) (q : Int) : (Instr.checkKey em 10000 kt (.int .i64 q)).run P w = .ok () w := by
  unfold Instr.checkKey
  simp [run_underlying hk, Result.andThen]
theorem updI_new {ps : List (Int × Int)} {q v : Int} (h : ∀ p ∈ ps, q ≠ p.1) : updI ps q v = ps ++ [(q, v)] := by
  induction ps with
  | nil => rfl
  | cons p ps ih =>
    rw [updI, if_neg (h p List.mem_cons_self), ih (fun p hp => h p (List.mem_cons_of_mem _ hp))]
    rfl
theorem modify_upd {q v : Int} : ∀ (es : List MapEntry) (ps : List (Int × Int)) (j i : Nat), es.map (fun e => (e.key, e.val)) = entI ps → fndI ps q i = some (i + j, .int .i64 (getI ps q)) →
    (es.modify j fun e => { e with key := .int .i64 q, val := .int .i64 v }).map (fun e => (e.key, e.val)) = entI (updI ps q v)
  | [], [], _, _, _, h => by simp [fndI] at h
  | [], _ :: _, _, _, h, _ => by simp [entI] at h
  | _ :: _, [], _, _, h, _ => by simp [entI] at h
  | e :: es, p :: ps, j, i, h, hf => by
    simp only [entI, List.map_cons, List.cons.injEq, Prod.mk.injEq] at h
    obtain ⟨⟨h1, h2⟩, h3⟩ := h
    unfold fndI at hf
    unfold updI
    by_cases hq : q = p.1
    · rw [if_pos hq] at hf ⊢
      simp only [Option.some.injEq, Prod.mk.injEq] at hf
      obtain rfl : j = 0 := by omega
      simp only [entI] at h3 ⊢
      simp [h3]
    · rw [if_neg hq] at hf ⊢
      have hg : getI (p :: ps) q = getI ps q := by
        unfold getI
        rw [List.find?_cons_of_neg (by simpa using hq)]
      rcases fndI_get q ps (i + 1) with ⟨h4, _⟩ | ⟨j2, h4, _, _⟩
      · rw [h4] at hf; cases hf
      · rw [h4] at hf
        simp only [Option.some.injEq, Prod.mk.injEq] at hf
        obtain rfl : j = j2 + 1 := by omega
        have ih := modify_upd (v := v) es ps j2 (i + 1) h3 h4
        simp only [entI, List.modify_succ_cons, List.map_cons, List.cons.injEq]
        refine ⟨by rw [h1, h2], ih⟩
variable {B : Nat} {w0 : World} {L : List Res} {g : Nat} {t et : TypeId} {ps : List (Int × Int)}
theorem Hp.mapMadeI (h : Hp B w0 w L) {g : Nat} (hg : w.heap.size = g := by first | rfl | simp) : Hp B w0 (w.alloc (.map #[] 0)) (.obj g (IMIs []) :: L) := by
  subst hg
  exact h.fresh (r := .obj w.heap.size (IMIs [])) ⟨h.base, _, heap_alloc_new w _, #[], 0, rfl, rfl⟩ ((Below.refl _ _).alloc (Nat.le_refl _) _) (fun j hj => by simp [Res.blk] at hj;omega)
theorem Hp.lookI (h : Hp B w0 w L) (i : Nat) (hi : L[i]? = some (.obj g (IMIs ps))) (ht : P.underlying t = some (.map kt et)) (hk : P.underlying kt = some (.int .i64)) (hz : ∀ w, (zeroValue et).run P w = .ok (.int .i64 0) w) (q : Int) : (Instr.lookup t (.map (some g)) (.int .i64 q) false).run P w = .ok (.int .i64 (getI ps q)) w := by
  obtain ⟨_, o, hb, es, clock, rfl, he⟩ := h.ok _ (List.mem_of_getElem? hi)
  have hr := run_find_int (P := P) (w := w) hk q he
  rcases fndI_get q ps 0 with ⟨h1, h2, _⟩ | ⟨j, h1, _, _⟩
  · rw [h1] at hr
    rw [h2]
    simp [Instr.lookup, run_underlying ht, MapKept.run_getObj_map hb, run_checkKey_int hk, hr, hz, Result.andThen]
  · rw [h1] at hr
    simp [Instr.lookup, run_underlying ht, MapKept.run_getObj_map hb, run_checkKey_int hk, hr, Result.andThen]
theorem Hp.storeI (h : Hp B w0 w L) (i : Nat) (hi : L[i]? = some (.obj g (IMIs ps))) (ht : P.underlying t = some (.map kt et)) (hk : P.underlying kt = some (.int .i64)) (q v : Int) : ∃ w', (Instr.mapUpdate t (.map (some g)) (.int .i64 q) (.int .i64 v)).run P w = .ok () w' ∧ Hp B w0 w' (L.set i (.obj g (IMIs (updI ps q v)))) := by
  obtain ⟨hB, o, hb, es, clock, rfl, he⟩ := h.ok _ (List.mem_of_getElem? hi)
  have hr := run_find_int (P := P) (w := w) hk q he
  have hlt := (Array.getElem?_eq_some_iff.1 hb).1
  rcases fndI_get q ps 0 with ⟨h1, _, h3⟩ | ⟨j, h1, hj, h3⟩
  · rw [h1] at hr
    refine ⟨w.putObj g (.map (es.push { key := .int .i64 q, val := .int .i64 v, born := clock }) (clock + 1)), ?_, ?_⟩
    · simp [Instr.mapUpdate, run_underlying ht, MapKept.run_getObj_map hb, run_checkKey_int hk, hr, MapKept.run_setObj_map _ hb, Result.andThen]
      rfl
    · refine h.turn hi (grownBy_putObj' w g _) (r' := .obj g (IMIs (updI ps q v))) ⟨hB, _, World.putObj_heap_same hlt, _, _, rfl, ?_⟩ (fun k hk => .inl hk)
      rw [updI_new h3]
      simp [he, entI]
  · rw [h1] at hr
    have hlen : es.size = ps.length := by
      have := congrArg List.length he
      simpa [entI] using this
    have hkey : ((es[j]?).map (·.key)).getD (.int .i64 q) = .int .i64 q := by
      have hje : j < es.size := by omega
      have h5 := congrArg (fun l => l[j]?) he
      simp only [List.getElem?_map, entI] at h5
      rw [Array.getElem?_toList] at h5
      rw [Array.getElem?_eq_getElem hje] at h5 ⊢
      rw [List.getElem?_eq_getElem hj] at h5
      simp only [Option.map_some, Option.some.injEq, Prod.mk.injEq] at h5
      simp only [Option.map_some, Option.getD_some]
      rw [h5.1]
      rw [getD_lt _ _ _ hj] at h3
      rw [h3]
    refine ⟨w.putObj g (.map (es.modify j fun e => { e with key := .int .i64 q, val := .int .i64 v }) clock), ?_, ?_⟩
    · have hst : (Instr.keyThatStays (.int .i64 q) (.int .i64 q)).run P w = .ok (.int .i64 q) w := by
        unfold Instr.keyThatStays
        simp [Instr.sameBits]
      simp [Instr.mapUpdate, run_underlying ht, MapKept.run_getObj_map hb, run_checkKey_int hk, hr, Result.andThen]
      rw [hkey, hst]
      simp only []
      rw [MapKept.run_setObj_map _ hb]
      rfl
    · refine h.turn hi (grownBy_putObj' w g _) (r' := .obj g (IMIs (updI ps q v))) ⟨hB, _, World.putObj_heap_same hlt, _, _, rfl, ?_⟩ (fun k hk => .inl hk)
      rw [Array.toList_modify]
      have := modify_upd (v := v) es.toList ps j 0 he h1
      exact this
end
section
variable {P : Program} {n : Nat} {w0 : World} {Q : Exit → Fm → List Res → Prop} {K : Fm → List Res → Prop} {F : Fm} {L : List Res} {m : Md} {Lw : List Res} {ops : Array Oper} {rest : List Oper}
  {d : Option Nat} {ty : TypeId} {pos : String} {aft : Array Edge} {ps : List (Int × Int)}
theorem OKx_mkMapI {t : TypeId} [hE : Keeps w0 L Lw] (kk : ∀ g, OKx P n w0 (.seq Lw) ops K rest (updo F d (.map (some g))) (.obj g (IMIs []) :: L)) :
    OKx P n w0 (.seq Lw) ops K (⟨d, .makeMap t none, ty, pos, aft, none⟩ :: rest) F L := by
  refine OKx_act hE.ent fun w hp => ⟨_, w.alloc (.map #[] 0), _, ?_, hp.mapMadeI, kk w.heap.size⟩
  simp [execOp, run_makeMap, Result.andThen]
theorem OKx_lookI {t kt et : TypeId} {x y : Operand} {g : Nat} {q : Int} (i : Nat) (hx : rv n F x = .map (some g)) (hy : rv n F y = .int .i64 q) (hi : L[i]? = some (.obj g (IMIs ps)))
    (ht : P.underlying t = some (.map kt et)) (hk : P.underlying kt = some (.int .i64)) (hz : ∀ w, (zeroValue et).run P w = .ok (.int .i64 0) w)
    (kk : OKx P n w0 m ops K rest (updo F d (.int .i64 (getI ps q))) L) : OKx P n w0 m ops K (⟨d, .lookup t x y false, ty, pos, aft, none⟩ :: rest) F L :=
  OKx_still (fun w hp _ _ _ _ => by
    have h := hp.lookI i hi ht hk hz q
    simp [execOp, hx, hy, h, Result.andThen]) kk
theorem OKx_setMI {t kt et : TypeId} {x y u : Operand} {g : Nat} {q v : Int} [hE : Keeps w0 L Lw] (i : Nat) (hx : rv n F x = .map (some g)) (hy : rv n F y = .int .i64 q) (hu : rv n F u = .int .i64 v) (hi : L[i]? = some (.obj g (IMIs ps)))
    (ht : P.underlying t = some (.map kt et)) (hk : P.underlying kt = some (.int .i64))
    (kk : OKx P n w0 (.seq Lw) ops K rest (updo F d undef) (L.set i (.obj g (IMIs (updI ps q v))))) : OKx P n w0 (.seq Lw) ops K (⟨d, .mapUpdate t x y u, ty, pos, aft, none⟩ :: rest) F L := by
  refine OKx_act0 hE.ent fun w hp => ?_
  obtain ⟨w', hrun, hp'⟩ := hp.storeI i hi ht hk q v
  refine ⟨w', _, ?_, hp', kk⟩
  simp [execOp, hx, hy, hu, hrun, Result.andThen]
theorem OKx_lenM {t kt et : TypeId} {x : Operand} {g : Nat} (i : Nat) (hx : rv n F x = .map (some g)) (hi : L[i]? = some (.obj g (IMIs ps))) (ht : P.underlying t = some (.map kt et))
    (kk : OKx P n w0 m ops K rest (updo F d (.int .i64 (ps.length : Int))) L) : OKx P n w0 m ops K (⟨d, .call { callee := .builtin .len, args := #[x], argTypes := #[t] }, ty, pos, aft, none⟩ :: rest) F L :=
  OKx_still (fun w hp _ _ _ _ => by
    obtain ⟨_, o, hb, es, clock, rfl, he⟩ := hp.ok _ (List.mem_of_getElem? hi)
    have hlen : es.size = ps.length := by
      have := congrArg List.length he
      simpa [entI] using this
    simp [execOp, resolve, invoke, builtin, hx, Builtin.len_, run_underlying ht, MapKept.run_getObj_map hb, Sem.run_bind, Result.andThen, hlen]
    rfl) kk
end
end Go.Proofs.YtpknpbeiifjmgaaGreat
namespace Go.Proofs.YtpknpbeiifjmgaaGreat
open Go.RowKit
theorem srtK_at {st : List Int} (hpos : ∀ x ∈ st, 0 ≤ x ∧ x < 16) (p : Nat) (hp : p < st.length) : st.getD p 0 ∈ srtK st 16 := by
  have hm := getD_mem st p 0 hp
  have := hpos _ hm
  exact (srtK_mem _ _ _).2 ⟨hm, this.1, by omega⟩
theorem dif_zero {t : Tre} {st : List Int} (hc : treC t = 0) (hk : knwE st (lvs t).length (-1) 16 = 0) (hl : st.length = (lvs t).length) (hpos : ∀ x ∈ st, 0 ≤ x ∧ x < 16) : fitX t st = 0 ↔ (srtK st 16).length < 2 := by
  rw [fit_zero hc hk hl hpos]
  have hasc := srtK_asc st 16
  have hin := fun p hp => srtK_at hpos p hp
  have hmem := fun x => (srtK_mem st 16 x).1
  cases hs : srtK st 16 with
  | nil =>
    rw [hs] at hin
    exact ⟨fun _ => by simp, fun _ p q hp _ => absurd (hin p hp) (by simp)⟩
  | cons a l =>
    cases l with
    | nil =>
      rw [hs] at hin
      refine ⟨fun _ => by simp, fun _ p q hp hq => ?_⟩
      rw [List.mem_singleton.1 (hin p hp), List.mem_singleton.1 (hin q hq)]
    | cons b l =>
      rw [hs] at hasc hmem
      constructor
      · intro h
        exfalso
        have hab := (List.pairwise_cons.1 hasc).1 b List.mem_cons_self
        obtain ⟨i, hi, e1⟩ := List.getElem_of_mem (hmem a List.mem_cons_self).1
        obtain ⟨j, hj, e2⟩ := List.getElem_of_mem (hmem b (List.mem_cons_of_mem _ List.mem_cons_self)).1
        have h2 := h i j hi hj
        rw [getD_lt _ _ _ hi, getD_lt _ _ _ hj, e1, e2] at h2
        omega
      · intro h
        simp at h
        omega
theorem dif_two {st : List Int} (hpos : ∀ x ∈ st, 0 ≤ x ∧ x < 16) (h2 : (srtK st 16).length = 2) : ∃ q0, q0 < st.length ∧ st.getD 0 0 ≠ st.getD q0 0 ∧ ∀ r, r < st.length → st.getD r 0 = st.getD 0 0 ∨ st.getD r 0 = st.getD q0 0 := by
  have hasc := srtK_asc st 16
  have hin := fun p hp => srtK_at hpos p hp
  have hmem := fun x => (srtK_mem st 16 x).1
  cases hs : srtK st 16 with
  | nil => rw [hs] at h2; cases h2
  | cons a l =>
    cases l with
    | nil => rw [hs] at h2; cases h2
    | cons b l =>
      cases l with
      | cons c l => rw [hs] at h2; simp at h2
      | nil =>
        rw [hs] at hasc hmem hin
        have hab := (List.pairwise_cons.1 hasc).1 b List.mem_cons_self
        obtain ⟨i, hi, e1⟩ := List.getElem_of_mem (hmem a List.mem_cons_self).1
        obtain ⟨j, hj, e2⟩ := List.getElem_of_mem (hmem b (List.mem_cons_of_mem _ List.mem_cons_self)).1
        rw [← getD_lt st i 0 hi] at e1
        rw [← getD_lt st j 0 hj] at e2
        have hto : ∀ r, r < st.length → st.getD r 0 = a ∨ st.getD r 0 = b := fun r hr => by simpa using hin r hr
        rcases hto 0 (by omega) with h0 | h0
        · refine ⟨j, hj, by omega, fun r hr => ?_⟩
          rcases hto r hr with h | h
          · left;omega
          · right;omega
        · refine ⟨i, hi, by omega, fun r hr => ?_⟩
          rcases hto r hr with h | h
          · right;omega
          · left;omega
theorem splits_law {t : Tre} {st : List Int} (hc : treC t = 0) (hk : knwE st (lvs t).length (-1) 16 = 0) (hl : st.length = (lvs t).length) (hpos : ∀ x ∈ st, 0 ≤ x ∧ x < 16) (h2 : (srtK st 16).length = 2) :
    1 ≤ fitX t st ∧ (fitX t st = 1 ↔ ((difL (fun p => st.getD p 0) st.length).length < 2 ∨ st.length - 2 < (difL (fun p => st.getD p 0) st.length).length) ∨
      ∃ v, 0 < v ∧ v < t.par.length ∧ nrmL t v = (difL (fun p => st.getD p 0) st.length).map fun p : Nat => (p : Int)) := by
  obtain ⟨q0, hq0, hne, htwo⟩ := dif_two hpos h2
  have h0 := (fit_law hc hk).2.2
  have hz := dif_zero hc hk hl hpos
  refine ⟨by omega, ?_⟩
  rw [split_law hc hk hl hpos q0 hq0 hne htwo]
  refine or_congr Iff.rfl (exists_congr fun v => and_congr Iff.rfl (and_congr Iff.rfl ?_))
  rw [nrm_dif t v (by omega), ← hl]
  constructor
  · intro h; rw [h]
  · intro h
    refine List.map_inj_right (fun x y e => ?_) |>.1 h
    omega
end Go.Proofs.YtpknpbeiifjmgaaGreat
