/-
  Part 22 of the proof: Ft36. No statement of the seat is proved here.
-/
import Derived.Test.YtpknpbeiifjmgaaDoorMHSa3821
import Derived.Shelf.Strconv.Itoa3
namespace Go.Proofs.YtpknpbeiifjmgaaDoor
open Go.RowKit
set_option maxRecDepth 100000 in
set_option maxHeartbeats 4000000 in
theorem itoa64_sat (i : Nat) (hi : i < 100) (w : World) : SatV Tryd.prog 25 [.int .i64 (i : Int)] w (.string (bOf (Lib.decDigits i))) :=
  Sat.lib ⟨_, _, Tryd.func25, by kernel_rfl, rfl⟩ fun w1 hb => by
    refine (Any.strconv_Itoa_small Tryd.lays171 i hi w1).mono ?_
    rintro e w' ⟨rfl, hw⟩
    exact ⟨_, [], rfl, by rw [hw]; exact Hp.refl _, rfl, rfl⟩
theorem decDigits_len : ∀ i, i < 64 → (Lib.decDigits i).length ≤ 2 := by
  have : (List.range 64).all (fun i => decide ((Lib.decDigits i).length ≤ 2)) = true := by decide +kernel
  intro i hi
  exact of_decide_eq_true (List.all_eq_true.1 this i (List.mem_range.2 hi))
theorem itS_app (i : Nat) : (⟨#[120]⟩ : ByteArray) ++ bOf (Lib.decDigits i) = itS i := by
  apply ByteArray.ext
  simp [itS, bOf]
def FtrR2 (t : Tre) (u : Value) (L : List Res) : Prop :=
  (ftE t ≠ 0 ∧ u = .tuple #[.agg #[.slice none 0 0, .slice none 0 0, .slice none 0 0], .int .i64 (ftE t)] ∧ L = []) ∨
  (ftE t = 0 ∧ ∃ na nc ea ec pa pc, u = .tuple #[.agg #[.slice na t.par.length nc, .slice ea t.par.length ec, .slice pa t.par.length pc], .int .i64 0] ∧ ∃ vs, ∀ w0 w, Hp w0.heap.size w0 w L → StV w (.agg #[.slice na t.par.length nc, .slice ea t.par.length ec, .slice pa t.par.length pc]) (ftS t) vs)
theorem ftE_one {t : Tre} (h : treC t ≠ 0) : ftE t = 1 := if_pos h
theorem ftE_dup {t : Tre} (h : treC t = 0) : ftE t = firstErr (dupE t) t.par.length := if_neg (by omega)
def ftJ (t : Tre) (go gr gt : Nat) (pv nv : Value) (k : Nat) (J : List Res) : Prop :=
  ∃ (na ea pa : Option Addr) (nc ec pc : Nat) (vs : List Value) (Z : List Res), vs.length = k ∧ (0 < k → ∃ g, na = some ⟨g, 0, none⟩) ∧ (∀ w0 w1, Hp w0.heap.size w0 w1 Z → ∀ j, j < k → Ints w1 (vs.getD j undef) ((ftP t k).getD j [])) ∧
    J = .row 9 1 (.slice na k nc) k (strs (ftN t k)) :: .row 4 1 (.slice ea k ec) k (bools (ftX t k)) :: .row 27 1 (.slice pa k pc) k vs :: .box 26 go [.slice na k nc, .slice ea k ec, .slice pa k pc] :: .box 26 gr [.slice none 0 0, .slice none 0 0, .slice none 0 0] :: .box 41 gt [pv, nv] :: Z
theorem ft_sizes {t : Tre} (w : World) (nv : Value) (hN : Strs w nv t.names) (h : treC t = 0) : ∀ x ∈ ftN t t.par.length, x.size ≤ 140737488355328 := by
  intro x hx
  have hl := treC_len h
  unfold ftN at hx
  obtain ⟨i, hi, rfl⟩ := List.mem_map.1 hx
  rw [List.mem_range] at hi
  unfold treW
  split
  · have := decDigits_len i (by omega)
    unfold itS
    rw [bOf_size, List.length_cons]
    omega
  · exact hN.2 _ (getD_mem t.names i _ (by omega))
theorem ft_next (t : Tre) (go gr gt : Nat) (pv nv : Value) (k m gA cA gB cB gC cC : Nat) (vs : List Value) (Z Z2 : List Res) (y : Value) (hm : k + m = t.names.length) (hk : k < t.names.length) (hvl : vs.length = k)
    (hZ : ∀ w0 w1, Hp w0.heap.size w0 w1 Z → ∀ j, j < k → Ints w1 (vs.getD j undef) ((ftP t k).getD j [])) (hy : ∀ w0 w1, Hp w0.heap.size w0 w1 Z2 → Ints w1 y (if k = 0 then [] else [t.par.getD k 0])) (hz2 : ∀ w0 w1, Hp w0.heap.size w0 w1 Z2 → Hp w0.heap.size w0 w1 Z) :
    ∃ k' : Nat, k' + (m - 1) = t.names.length ∧ Value.int .i64 ((k : Int) + 1) = .int .i64 (k' : Int) ∧ ftJ t go gr gt pv nv k' (.row 9 1 (.slice (some ⟨gA, 0, none⟩) (k + 1) cA) (k + 1) (strs (ftN t k) ++ [.string (treW t k)]) :: .row 4 1 (.slice (some ⟨gB, 0, none⟩) (k + 1) cB) (k + 1) (bools (ftX t k) ++ [.bool (decide (t.names.getD k ByteArray.empty ≠ ByteArray.empty))]) :: .row 27 1 (.slice (some ⟨gC, 0, none⟩) (k + 1) cC) (k + 1) (vs ++ [y]) :: .box 26 go [.slice (some ⟨gA, 0, none⟩) (k + 1) cA, .slice (some ⟨gB, 0, none⟩) (k + 1) cB, .slice (some ⟨gC, 0, none⟩) (k + 1) cC] :: .box 26 gr [.slice none 0 0, .slice none 0 0, .slice none 0 0] :: .box 41 gt [pv, nv] :: Z2) := by
  have hsN := ftN_step t k
  have hsX := ftX_step t k
  have hsP := ftP_step t k
  refine ⟨k + 1, by omega, rfl, some ⟨gA, 0, none⟩, some ⟨gB, 0, none⟩, some ⟨gC, 0, none⟩, cA, cB, cC, vs ++ [y], Z2, by rw [List.length_append, hvl]; rfl, fun _ => ⟨gA, rfl⟩, fun w0 w1 hp j hj => ?_, ?_⟩
  · rw [getD_snoc, hsP, getD_snoc, hvl, ftP_len]
    by_cases hjN : j < k
    · rw [if_pos hjN, if_pos hjN]
      exact hZ w0 w1 (hz2 w0 w1 hp) j hjN
    · obtain rfl : j = k := by omega
      rw [if_neg hjN, if_pos rfl, if_neg hjN, if_pos rfl]
      exact hy w0 w1 hp
  · rw [hsN, hsX]
    unfold strs bools
    rw [List.map_append, List.map_append]
    rfl
set_option maxRecDepth 100000 in
set_option maxHeartbeats 4000000 in
theorem FromTree2_sat (v : Value) (t : Tre) (w : World) (h : Tri w v t) : Sat Tryd.prog 14 [v] w (FtrR2 t) := by
  have ht := h
  obtain ⟨pv, nv, rfl, hP, hN⟩ := h
  have hpv := hP.sl
  have hnv := hN.sl
  have hpb := hpv.bound
  have hnb := hnv.bound
  by_cases hc : treC t = 0
  rotate_left
  · refine SatL.ofR 74 [.cell 2 26, .tmp 3] Tryd.func14 (by kernel_rfl) (by kernel_rfl) rfl rfl rfl ?_
    repeat' (first|(apply OK_seq)|(apply thenQ_n)|(apply OK_region)|(apply OKx_gc 23;exact rfl; refine OKx_callV (f := 23) rfl rfl rfl (fun w1 hp => pCheck_sat _ t w1 (ht.below hp.below)) ?_)|(refine OK_rid 13 ?_; refine OK_mix [0, 1, 5, 6, 7, 10, 11, 12] [2] [] [3, 4, 8, 9, 13, 14, 15, 16, 17, 18, 19, 20] [] (id := 13) (by kernel_rfl) (by kernel_rfl) rfl (Ent.nil) (by ((try simp only [pickO, nthO, List.cons_append, List.nil_append]) <;> exact rfl)) (by ((try simp only [pickO, nthO, List.cons_append, List.nil_append]) <;> exact rfl)) (by ((try simp only [pickO]) <;> exact rfl)) (by ((try simp only [pickO, nthO, List.cons_append, List.nil_append]) <;> exact rfl)) ?_)|(apply OKx_nilK)|(apply OK_block)|(apply blockQ_n)|(apply blockQ_s)|(apply thenQ_e)|(apply blockQ_e;exact rfl)|(apply thenQ_r)|(apply blockQ_r)|(apply OK_condT;exact rfl)|(apply OK_condF;exact rfl)|(apply OK_skip)|(apply OK_exit)|(apply OK_ret)|(apply OKx_move;(conv=>lhs;whnf)<;>exact rfl)|(apply OKx_assign;(conv=>lhs;whnf)<;>exact rfl)|(apply OKx_ldB;exact rfl;(first | exact at0|exact at1|exact at2|exact at3|exact at4|exact at5|exact at6|exact at7);exact rfl)|(apply OKx_ldR;(conv=>lhs;whnf)<;>exact rfl;(with_reducible assumption))|(apply OKx_ldI;exact rfl;(first | exact at0|exact at1|exact at2|exact at3|exact at4|exact at5|exact at6|exact at7);omega)|(apply OKx_len;exact rfl)|(apply OKx_lenR;(conv=>lhs;whnf)<;>exact rfl;(with_reducible assumption))|(apply OKx_lenR2;(conv=>lhs;whnf)<;>exact rfl;(with_reducible assumption))|(apply OKx_lenO;(conv=>lhs;whnf)<;>exact rfl;(first | exact at0|exact at1|exact at2|exact at3|exact at4|exact at5|exact at6|exact at7))|(apply OKx_lss;exact rfl;exact rfl;all_goals (intro _; try (exfalso;omega)))|(apply OKx_gtr;exact rfl;exact rfl;all_goals (intro _; try (exfalso;omega)))|(apply OKx_neq;exact rfl;exact rfl;all_goals (intro _; try (exfalso;omega)))|(apply OKx_sneq;exact rfl;exact rfl; all_goals intro _)|(apply OKx_idxO;exact rfl;exact rfl;omega)|(apply OKx_idxR;(conv=>lhs;whnf)<;>exact rfl;(with_reducible assumption);exact rfl;omega;intro _ _)|(apply OKx_idxOz;exact rfl;exact rfl;omega;omega)|(apply OKx_idxRz;(conv=>lhs;whnf)<;>exact rfl;(with_reducible assumption);exact rfl;omega;omega;intro _ _)|(apply OKx_fldO;exact rfl;exact rfl)|(apply OKx_fldR;(conv=>lhs;whnf)<;>exact rfl;(with_reducible assumption); decide;intro _ _)|(apply OKx_inc;exact rfl;exact rfl;omega)|(apply OKx_addN;exact rfl;exact rfl;omega)|(apply OKx_add;exact rfl;exact rfl;omega;omega)|(apply OKx_notT;exact rfl)|(apply OKx_notF;exact rfl)|(apply OKx_boxA;exact rfl;intro _)|(apply OKx_allocA;intro _)|(apply OKx_ldBA;exact rfl;(first | exact at0|exact at1|exact at2|exact at3|exact at4|exact at5|exact at6|exact at7);exact rfl)|(apply OKx_ldRA;(conv=>lhs;whnf)<;>exact rfl;(with_reducible assumption))|(apply OKx_stB;exact rfl;(conv=>lhs;whnf)<;>exact rfl;exact rfl;exact rfl;(first | exact at0|exact at1|exact at2|exact at3|exact at4|exact at5|exact at6|exact at7);exact rfl;exact rfl;exact rfl)|(apply OKx_slit1;(conv=>lhs;whnf)<;>exact rfl;exact rfl;intro _)|(apply OKx_stBA; kernel_rfl;exact rfl;exact rfl;exact rfl;(first | exact at0|exact at1|exact at2|exact at3|exact at4|exact at5|exact at6|exact at7);exact rfl;exact rfl;exact rfl)|(apply OKx_build0))
    refine bodyR_r2 (by first | exact resIs_tmp (by ((conv=>lhs;whnf)<;>exact rfl)) | exact resIs_cellA 0 rfl rfl rfl | exact resIs_cellA 1 rfl rfl rfl | exact resIs_cellA 2 rfl rfl rfl | exact resIs_cellA 3 rfl rfl rfl | exact resIs_cellA 4 rfl rfl rfl | exact resIs_cellA 5 rfl rfl rfl | exact resIs_cellA 6 rfl rfl rfl | exact resIs_cellA 7 rfl rfl rfl | exact resIs_cellA 8 rfl rfl rfl | exact resIs_cellA 9 rfl rfl rfl) (by first | exact resIs_tmp (by ((conv=>lhs;whnf)<;>exact rfl)) | exact resIs_cellA 0 rfl rfl rfl | exact resIs_cellA 1 rfl rfl rfl | exact resIs_cellA 2 rfl rfl rfl | exact resIs_cellA 3 rfl rfl rfl | exact resIs_cellA 4 rfl rfl rfl | exact resIs_cellA 5 rfl rfl rfl | exact resIs_cellA 6 rfl rfl rfl | exact resIs_cellA 7 rfl rfl rfl | exact resIs_cellA 8 rfl rfl rfl | exact resIs_cellA 9 rfl rfl rfl) ?_
    exact ⟨_, Ent.nil, .inl ⟨by rw [ftE_one hc]; decide, by rw [ftE_one hc], rfl⟩⟩
  have hck : ∀ w1, Below w.heap.size w w1 → SatV Tryd.prog 23 [.agg #[pv, nv]] w1 (.int .i64 0) := fun w1 hb => by have := pCheck_sat _ t w1 (ht.below hb); rwa [hc] at this
  obtain ⟨l0, l64, lnm, _, _⟩ := treC_len hc
  refine SatL.ofR 74 [.cell 2 26, .tmp 3] Tryd.func14 (by kernel_rfl) (by kernel_rfl) rfl rfl rfl ?_
  repeat' (first|(apply OK_seq)|(apply thenQ_n)|(apply OK_region)|(apply OKx_gc 23;exact rfl; refine OKx_callV (f := 23) (v := .int .i64 0) rfl rfl rfl (fun w1 hp => hck w1 hp.below) ?_)|(refine OK_rid 13 ?_; refine OK_mix [0, 1, 5, 6, 7, 10, 11, 12] [2] [] [3, 4, 8, 9, 13, 14, 15, 16, 17, 18, 19, 20] [] (id := 13) (by kernel_rfl) (by kernel_rfl) rfl (Ent.nil) (by ((try simp only [pickO, nthO, List.cons_append, List.nil_append]) <;> exact rfl)) (by ((try simp only [pickO, nthO, List.cons_append, List.nil_append]) <;> exact rfl)) (by ((try simp only [pickO]) <;> exact rfl)) (by ((try simp only [pickO, nthO, List.cons_append, List.nil_append]) <;> exact rfl)) ?_)|(apply OKx_nilK)|(apply OK_block)|(apply blockQ_n)|(apply blockQ_s)|(apply thenQ_e)|(apply blockQ_e;exact rfl)|(apply thenQ_r)|(apply blockQ_r)|(apply OK_condT;exact rfl)|(apply OK_condF;exact rfl)|(apply OK_skip)|(apply OK_exit)|(apply OK_ret)|(apply OKx_move;(conv=>lhs;whnf)<;>exact rfl)|(apply OKx_assign;(conv=>lhs;whnf)<;>exact rfl)|(apply OKx_ldB;exact rfl;(first | exact at0|exact at1|exact at2|exact at3|exact at4|exact at5|exact at6|exact at7);exact rfl)|(apply OKx_ldR;(conv=>lhs;whnf)<;>exact rfl;(with_reducible assumption))|(apply OKx_ldI;exact rfl;(first | exact at0|exact at1|exact at2|exact at3|exact at4|exact at5|exact at6|exact at7);omega)|(apply OKx_len;exact rfl)|(apply OKx_lenR;(conv=>lhs;whnf)<;>exact rfl;(with_reducible assumption))|(apply OKx_lenR2;(conv=>lhs;whnf)<;>exact rfl;(with_reducible assumption))|(apply OKx_lenO;(conv=>lhs;whnf)<;>exact rfl;(first | exact at0|exact at1|exact at2|exact at3|exact at4|exact at5|exact at6|exact at7))|(apply OKx_lss;exact rfl;exact rfl;all_goals (intro _; try (exfalso;omega)))|(apply OKx_gtr;exact rfl;exact rfl;all_goals (intro _; try (exfalso;omega)))|(apply OKx_neq;exact rfl;exact rfl;all_goals (intro _; try (exfalso;omega)))|(apply OKx_sneq;exact rfl;exact rfl; all_goals intro _)|(apply OKx_idxO;exact rfl;exact rfl;omega)|(apply OKx_idxR;(conv=>lhs;whnf)<;>exact rfl;(with_reducible assumption);exact rfl;omega;intro _ _)|(apply OKx_idxOz;exact rfl;exact rfl;omega;omega)|(apply OKx_idxRz;(conv=>lhs;whnf)<;>exact rfl;(with_reducible assumption);exact rfl;omega;omega;intro _ _)|(apply OKx_fldO;exact rfl;exact rfl)|(apply OKx_fldR;(conv=>lhs;whnf)<;>exact rfl;(with_reducible assumption); decide;intro _ _)|(apply OKx_inc;exact rfl;exact rfl;omega)|(apply OKx_addN;exact rfl;exact rfl;omega)|(apply OKx_add;exact rfl;exact rfl;omega;omega)|(apply OKx_notT;exact rfl)|(apply OKx_notF;exact rfl)|(apply OKx_boxA;exact rfl;intro _)|(apply OKx_allocA;intro _)|(apply OKx_ldBA;exact rfl;(first | exact at0|exact at1|exact at2|exact at3|exact at4|exact at5|exact at6|exact at7);exact rfl)|(apply OKx_ldRA;(conv=>lhs;whnf)<;>exact rfl;(with_reducible assumption))|(apply OKx_stB;exact rfl;(conv=>lhs;whnf)<;>exact rfl;exact rfl;exact rfl;(first | exact at0|exact at1|exact at2|exact at3|exact at4|exact at5|exact at6|exact at7);exact rfl;exact rfl;exact rfl)|(apply OKx_slit1;(conv=>lhs;whnf)<;>exact rfl;exact rfl;intro _)|(apply OKx_stBA; kernel_rfl;exact rfl;exact rfl;exact rfl;(first | exact at0|exact at1|exact at2|exact at3|exact at4|exact at5|exact at6|exact at7);exact rfl;exact rfl;exact rfl)|(apply OKx_build0))
  rename_i gt gr _ go
  refine OK_loop1 18 [5, 6, 7, 8, 18, 19, 20, 21, 22, 23, 24, 25, 26, 27, 28, 29, 30, 31, 32, 33, 34, 35, 36, 37, 38, 39, 40, 41, 42, 43, 44, 45, 46, 47, 48, 49, 50, 51, 52, 53, 54, 55, 56] (fun m v L => ∃ k : Nat, k + m = t.names.length ∧ v = .int .i64 (k : Int) ∧ ftJ t go gr gt pv nv k L) t.names.length _
    (Ent.mk fun w1 hp => ((hp.nil 27 1).nil 4 1).nil 9 1) ⟨0, by omega, rfl, none, none, none, 0, 0, 0, [], [], rfl, fun h => absurd h (by omega), fun _ w1 _ j hj => absurd hj (by omega), rfl⟩ ?_
  rintro m v L G ⟨k, hm, rfl, na, ea, pa, nc, ec, pc, vs, Z, hvl, hna, hZ, rfl⟩
  by_cases hk : k < t.names.length
  rotate_left
  · obtain rfl : k = t.par.length := by omega
    obtain ⟨gn, rfl⟩ := hna l0
    have hsz := ft_sizes w nv hN hc
    have hnl := ftN_len t t.par.length
    refine OK_world fun wx hpx => ?_
    have hcapN : t.par.length ≤ nc := (hpx.strs 0 rfl (by omega) hsz).1.room _ _ _ rfl
    clear hpx
    repeat' (first|(apply OK_seq)|(apply thenQ_n)|(apply OK_region)|(refine OK_rid 13 ?_; refine OK_mix [0, 1, 5, 6, 7, 10, 11, 12] [2] [] [3, 4, 8, 9, 13, 14, 15, 16, 17, 18, 19, 20] [] (id := 13) (by kernel_rfl) (by kernel_rfl) rfl (Ent.nil) (by ((try simp only [pickO, nthO, List.cons_append, List.nil_append]) <;> exact rfl)) (by ((try simp only [pickO, nthO, List.cons_append, List.nil_append]) <;> exact rfl)) (by ((try simp only [pickO]) <;> exact rfl)) (by ((try simp only [pickO, nthO, List.cons_append, List.nil_append]) <;> exact rfl)) ?_)|(apply OKx_nilK)|(apply OK_block)|(apply blockQ_n)|(apply blockQ_s)|(apply thenQ_e)|(apply blockQ_e;exact rfl)|(apply thenQ_r)|(apply blockQ_r)|(apply OK_condT;exact rfl)|(apply OK_condF;exact rfl)|(apply OK_skip)|(apply OK_exit)|(apply OK_ret)|(apply OKx_move;(conv=>lhs;whnf)<;>exact rfl)|(apply OKx_assign;(conv=>lhs;whnf)<;>exact rfl)|(apply OKx_ldB;exact rfl;(first | exact at0|exact at1|exact at2|exact at3|exact at4|exact at5|exact at6|exact at7);exact rfl)|(apply OKx_ldR;(conv=>lhs;whnf)<;>exact rfl;(with_reducible assumption))|(apply OKx_ldI;exact rfl;(first | exact at0|exact at1|exact at2|exact at3|exact at4|exact at5|exact at6|exact at7);omega)|(apply OKx_len;exact rfl)|(apply OKx_lenR;(conv=>lhs;whnf)<;>exact rfl;(with_reducible assumption))|(apply OKx_lenR2;(conv=>lhs;whnf)<;>exact rfl;(with_reducible assumption))|(apply OKx_lenO;(conv=>lhs;whnf)<;>exact rfl;(first | exact at0|exact at1|exact at2|exact at3|exact at4|exact at5|exact at6|exact at7))|(apply OKx_lss;exact rfl;exact rfl;all_goals (intro _; try (exfalso;omega)))|(apply OKx_gtr;exact rfl;exact rfl;all_goals (intro _; try (exfalso;omega)))|(apply OKx_neq;exact rfl;exact rfl;all_goals (intro _; try (exfalso;omega)))|(apply OKx_sneq;exact rfl;exact rfl; all_goals intro _)|(apply OKx_idxO;exact rfl;exact rfl;omega)|(apply OKx_idxR;(conv=>lhs;whnf)<;>exact rfl;(with_reducible assumption);exact rfl;omega;intro _ _)|(apply OKx_idxOz;exact rfl;exact rfl;omega;omega)|(apply OKx_idxRz;(conv=>lhs;whnf)<;>exact rfl;(with_reducible assumption);exact rfl;omega;omega;intro _ _)|(apply OKx_fldO;exact rfl;exact rfl)|(apply OKx_fldR;(conv=>lhs;whnf)<;>exact rfl;(with_reducible assumption); decide;intro _ _)|(apply OKx_inc;exact rfl;exact rfl;omega)|(apply OKx_addN;exact rfl;exact rfl;omega)|(apply OKx_add;exact rfl;exact rfl;omega;omega)|(apply OKx_notT;exact rfl)|(apply OKx_notF;exact rfl)|(apply OKx_boxA;exact rfl;intro _)|(apply OKx_allocA;intro _)|(apply OKx_ldBA;exact rfl;(first | exact at0|exact at1|exact at2|exact at3|exact at4|exact at5|exact at6|exact at7);exact rfl)|(apply OKx_ldRA;(conv=>lhs;whnf)<;>exact rfl;(with_reducible assumption))|(apply OKx_stB;exact rfl;(conv=>lhs;whnf)<;>exact rfl;exact rfl;exact rfl;(first | exact at0|exact at1|exact at2|exact at3|exact at4|exact at5|exact at6|exact at7);exact rfl;exact rfl;exact rfl)|(apply OKx_slit1;(conv=>lhs;whnf)<;>exact rfl;exact rfl;intro _)|(apply OKx_stBA; kernel_rfl;exact rfl;exact rfl;exact rfl;(first | exact at0|exact at1|exact at2|exact at3|exact at4|exact at5|exact at6|exact at7);exact rfl;exact rfl;exact rfl))
    refine OK_loop1 60 [3, 9, 10, 60, 61, 62, 63, 64, 65, 66, 67, 68, 69, 70, 71, 72] (fun m v L => ∃ k : Nat, k + m = t.par.length ∧ v = .int .i64 (k : Int) ∧ firstErr (dupE t) k = 0 ∧ L = .row 9 1 (.slice (some ⟨gn, 0, none⟩) t.par.length nc) t.par.length (strs (ftN t t.par.length)) :: .row 4 1 (.slice ea t.par.length ec) t.par.length (bools (ftX t t.par.length)) :: .row 27 1 (.slice pa t.par.length pc) t.par.length vs :: .box 26 go [.slice (some ⟨gn, 0, none⟩) t.par.length nc, .slice ea t.par.length ec, .slice pa t.par.length pc] :: .box 26 gr [.slice none 0 0, .slice none 0 0, .slice none 0 0] :: .box 41 gt [pv, nv] :: Z) t.par.length _ (Ent.refl _ _) ⟨0, by omega, rfl, rfl, rfl⟩ ?_
    rintro m2 v L G2 ⟨k, hm2, rfl, hz, rfl⟩
    by_cases hk2 : k < t.par.length
    rotate_left
    · obtain rfl : k = t.par.length := by omega
      have hE : ftE t = 0 := by rw [ftE_dup hc, hz]
      repeat' (first|(apply OK_seq)|(apply thenQ_n)|(apply OK_region)|(refine OK_rid 13 ?_; refine OK_mix [0, 1, 5, 6, 7, 10, 11, 12] [2] [] [3, 4, 8, 9, 13, 14, 15, 16, 17, 18, 19, 20] [] (id := 13) (by kernel_rfl) (by kernel_rfl) rfl (Ent.nil) (by ((try simp only [pickO, nthO, List.cons_append, List.nil_append]) <;> exact rfl)) (by ((try simp only [pickO, nthO, List.cons_append, List.nil_append]) <;> exact rfl)) (by ((try simp only [pickO]) <;> exact rfl)) (by ((try simp only [pickO, nthO, List.cons_append, List.nil_append]) <;> exact rfl)) ?_)|(apply OKx_nilK)|(apply OK_block)|(apply blockQ_n)|(apply blockQ_s)|(apply thenQ_e)|(apply blockQ_e;exact rfl)|(apply thenQ_r)|(apply blockQ_r)|(apply OK_condT;exact rfl)|(apply OK_condF;exact rfl)|(apply OK_skip)|(apply OK_exit)|(apply OK_ret)|(apply OKx_move;(conv=>lhs;whnf)<;>exact rfl)|(apply OKx_assign;(conv=>lhs;whnf)<;>exact rfl)|(apply OKx_ldB;exact rfl;(first | exact at0|exact at1|exact at2|exact at3|exact at4|exact at5|exact at6|exact at7);exact rfl)|(apply OKx_ldR;(conv=>lhs;whnf)<;>exact rfl;(with_reducible assumption))|(apply OKx_ldI;exact rfl;(first | exact at0|exact at1|exact at2|exact at3|exact at4|exact at5|exact at6|exact at7);omega)|(apply OKx_len;exact rfl)|(apply OKx_lenR;(conv=>lhs;whnf)<;>exact rfl;(with_reducible assumption))|(apply OKx_lenR2;(conv=>lhs;whnf)<;>exact rfl;(with_reducible assumption))|(apply OKx_lenO;(conv=>lhs;whnf)<;>exact rfl;(first | exact at0|exact at1|exact at2|exact at3|exact at4|exact at5|exact at6|exact at7))|(apply OKx_lss;exact rfl;exact rfl;all_goals (intro _; try (exfalso;omega)))|(apply OKx_gtr;exact rfl;exact rfl;all_goals (intro _; try (exfalso;omega)))|(apply OKx_neq;exact rfl;exact rfl;all_goals (intro _; try (exfalso;omega)))|(apply OKx_sneq;exact rfl;exact rfl; all_goals intro _)|(apply OKx_idxO;exact rfl;exact rfl;omega)|(apply OKx_idxR;(conv=>lhs;whnf)<;>exact rfl;(with_reducible assumption);exact rfl;omega;intro _ _)|(apply OKx_idxOz;exact rfl;exact rfl;omega;omega)|(apply OKx_idxRz;(conv=>lhs;whnf)<;>exact rfl;(with_reducible assumption);exact rfl;omega;omega;intro _ _)|(apply OKx_fldO;exact rfl;exact rfl)|(apply OKx_fldR;(conv=>lhs;whnf)<;>exact rfl;(with_reducible assumption); decide;intro _ _)|(apply OKx_inc;exact rfl;exact rfl;omega)|(apply OKx_addN;exact rfl;exact rfl;omega)|(apply OKx_add;exact rfl;exact rfl;omega;omega)|(apply OKx_notT;exact rfl)|(apply OKx_notF;exact rfl)|(apply OKx_boxA;exact rfl;intro _)|(apply OKx_allocA;intro _)|(apply OKx_ldBA;exact rfl;(first | exact at0|exact at1|exact at2|exact at3|exact at4|exact at5|exact at6|exact at7);exact rfl)|(apply OKx_ldRA;(conv=>lhs;whnf)<;>exact rfl;(with_reducible assumption))|(apply OKx_stB;exact rfl;(conv=>lhs;whnf)<;>exact rfl;exact rfl;exact rfl;(first | exact at0|exact at1|exact at2|exact at3|exact at4|exact at5|exact at6|exact at7);exact rfl;exact rfl;exact rfl)|(apply OKx_slit1;(conv=>lhs;whnf)<;>exact rfl;exact rfl;intro _)|(apply OKx_stBA; kernel_rfl;exact rfl;exact rfl;exact rfl;(first | exact at0|exact at1|exact at2|exact at3|exact at4|exact at5|exact at6|exact at7);exact rfl;exact rfl;exact rfl))
      refine bodyR_r2 (by first | exact resIs_tmp (by ((conv=>lhs;whnf)<;>exact rfl)) | exact resIs_cellA 0 rfl rfl rfl | exact resIs_cellA 1 rfl rfl rfl | exact resIs_cellA 2 rfl rfl rfl | exact resIs_cellA 3 rfl rfl rfl | exact resIs_cellA 4 rfl rfl rfl | exact resIs_cellA 5 rfl rfl rfl | exact resIs_cellA 6 rfl rfl rfl | exact resIs_cellA 7 rfl rfl rfl | exact resIs_cellA 8 rfl rfl rfl | exact resIs_cellA 9 rfl rfl rfl) (by first | exact resIs_tmp (by ((conv=>lhs;whnf)<;>exact rfl)) | exact resIs_cellA 0 rfl rfl rfl | exact resIs_cellA 1 rfl rfl rfl | exact resIs_cellA 2 rfl rfl rfl | exact resIs_cellA 3 rfl rfl rfl | exact resIs_cellA 4 rfl rfl rfl | exact resIs_cellA 5 rfl rfl rfl | exact resIs_cellA 6 rfl rfl rfl | exact resIs_cellA 7 rfl rfl rfl | exact resIs_cellA 8 rfl rfl rfl | exact resIs_cellA 9 rfl rfl rfl) ?_
      refine ⟨_, Ent.refl _ _, .inr ⟨hE, some ⟨gn, 0, none⟩, nc, ea, ec, pa, pc, rfl, vs, fun w0 w1 hp => ⟨_, _, _, rfl, ?_, ?_, ?_, ?_, ?_⟩⟩⟩
      · have := hp.strs 0 rfl (by omega) hsz
        exact this
      · exact hp.bools 1 rfl (by omega)
      · have e9 : (ftS t).par.length = t.par.length := ftP_len t _
        rw [e9]
        refine hp.sl 2 rfl (by omega) fun j hj => ?_
        rw [List.getElem?_eq_getElem (by omega), getD_lt _ _ _ (by omega)]
      · rw [hvl]
        exact (ftP_len t _).symm
      · intro j hj
        have e9 : (ftS t).par.length = t.par.length := ftP_len t _
        have := hZ w0 w1 hp.drop6 j (by omega)
        have e8 : (ftP t t.par.length).getD j [] = (ftS t).par[j] := getD_lt (ftS t).par j [] hj
        rwa [e8] at this
    have hat : (strs (ftN t t.par.length))[k]? = some (.string ((ftN t t.par.length).getD k ByteArray.empty)) := strs_at _ k (by omega)
    have hstp := firstErr_step (dupE t) k hz
    have hhit := firstErr_hit (dupE t) k t.par.length hz
    have hdd : dupE t k = if Lib.containsS ((ftN t t.par.length).take k) ((ftN t t.par.length).getD k ByteArray.empty) = true then 7 else 0 := rfl
    cases hcn : Lib.containsS ((ftN t t.par.length).take k) ((ftN t t.par.length).getD k ByteArray.empty) with
    | true =>
      rw [if_pos hcn] at hdd
      repeat' (first|(apply OK_seq)|(apply thenQ_n)|(apply OK_region)|(apply OKx_gl; refine OKx_ldW 0 rfl rfl hk2 hat ?_)|(refine OKx_slH rfl rfl (by omega) ?_)|(apply OKx_gc 26;exact rfl; refine OKx_callV (f := 26) (v := .bool true) rfl rfl rfl (fun w1 hp => by have := conS_sat _ _ ((ftN t t.par.length).getD k ByteArray.empty) w1 ((hp.strs 0 rfl (by omega) hsz).take k nc (by omega) (by omega)); rwa [hcn] at this) ?_)|(refine OK_rid 13 ?_; refine OK_mix [0, 1, 5, 6, 7, 10, 11, 12] [2] [] [3, 4, 8, 9, 13, 14, 15, 16, 17, 18, 19, 20] [] (id := 13) (by kernel_rfl) (by kernel_rfl) rfl (Ent.nil) (by ((try simp only [pickO, nthO, List.cons_append, List.nil_append]) <;> exact rfl)) (by ((try simp only [pickO, nthO, List.cons_append, List.nil_append]) <;> exact rfl)) (by ((try simp only [pickO]) <;> exact rfl)) (by ((try simp only [pickO, nthO, List.cons_append, List.nil_append]) <;> exact rfl)) ?_)|(apply OKx_nilK)|(apply OK_block)|(apply blockQ_n)|(apply blockQ_s)|(apply thenQ_e)|(apply blockQ_e;exact rfl)|(apply thenQ_r)|(apply blockQ_r)|(apply OK_condT;exact rfl)|(apply OK_condF;exact rfl)|(apply OK_skip)|(apply OK_exit)|(apply OK_ret)|(apply OKx_move;(conv=>lhs;whnf)<;>exact rfl)|(apply OKx_assign;(conv=>lhs;whnf)<;>exact rfl)|(apply OKx_ldB;exact rfl;(first | exact at0|exact at1|exact at2|exact at3|exact at4|exact at5|exact at6|exact at7);exact rfl)|(apply OKx_ldR;(conv=>lhs;whnf)<;>exact rfl;(with_reducible assumption))|(apply OKx_ldI;exact rfl;(first | exact at0|exact at1|exact at2|exact at3|exact at4|exact at5|exact at6|exact at7);omega)|(apply OKx_len;exact rfl)|(apply OKx_lenR;(conv=>lhs;whnf)<;>exact rfl;(with_reducible assumption))|(apply OKx_lenR2;(conv=>lhs;whnf)<;>exact rfl;(with_reducible assumption))|(apply OKx_lenO;(conv=>lhs;whnf)<;>exact rfl;(first | exact at0|exact at1|exact at2|exact at3|exact at4|exact at5|exact at6|exact at7))|(apply OKx_lss;exact rfl;exact rfl;all_goals (intro _; try (exfalso;omega)))|(apply OKx_gtr;exact rfl;exact rfl;all_goals (intro _; try (exfalso;omega)))|(apply OKx_neq;exact rfl;exact rfl;all_goals (intro _; try (exfalso;omega)))|(apply OKx_sneq;exact rfl;exact rfl; all_goals intro _)|(apply OKx_idxO;exact rfl;exact rfl;omega)|(apply OKx_idxR;(conv=>lhs;whnf)<;>exact rfl;(with_reducible assumption);exact rfl;omega;intro _ _)|(apply OKx_idxOz;exact rfl;exact rfl;omega;omega)|(apply OKx_idxRz;(conv=>lhs;whnf)<;>exact rfl;(with_reducible assumption);exact rfl;omega;omega;intro _ _)|(apply OKx_fldO;exact rfl;exact rfl)|(apply OKx_fldR;(conv=>lhs;whnf)<;>exact rfl;(with_reducible assumption); decide;intro _ _)|(apply OKx_inc;exact rfl;exact rfl;omega)|(apply OKx_addN;exact rfl;exact rfl;omega)|(apply OKx_add;exact rfl;exact rfl;omega;omega)|(apply OKx_notT;exact rfl)|(apply OKx_notF;exact rfl)|(apply OKx_boxA;exact rfl;intro _)|(apply OKx_allocA;intro _)|(apply OKx_ldBA;exact rfl;(first | exact at0|exact at1|exact at2|exact at3|exact at4|exact at5|exact at6|exact at7);exact rfl)|(apply OKx_ldRA;(conv=>lhs;whnf)<;>exact rfl;(with_reducible assumption))|(apply OKx_stB;exact rfl;(conv=>lhs;whnf)<;>exact rfl;exact rfl;exact rfl;(first | exact at0|exact at1|exact at2|exact at3|exact at4|exact at5|exact at6|exact at7);exact rfl;exact rfl;exact rfl)|(apply OKx_slit1;(conv=>lhs;whnf)<;>exact rfl;exact rfl;intro _)|(apply OKx_stBA; kernel_rfl;exact rfl;exact rfl;exact rfl;(first | exact at0|exact at1|exact at2|exact at3|exact at4|exact at5|exact at6|exact at7);exact rfl;exact rfl;exact rfl)|(apply OKx_build0))
      refine bodyR_r2 (by first | exact resIs_tmp (by ((conv=>lhs;whnf)<;>exact rfl)) | exact resIs_cellA 0 rfl rfl rfl | exact resIs_cellA 1 rfl rfl rfl | exact resIs_cellA 2 rfl rfl rfl | exact resIs_cellA 3 rfl rfl rfl | exact resIs_cellA 4 rfl rfl rfl | exact resIs_cellA 5 rfl rfl rfl | exact resIs_cellA 6 rfl rfl rfl | exact resIs_cellA 7 rfl rfl rfl | exact resIs_cellA 8 rfl rfl rfl | exact resIs_cellA 9 rfl rfl rfl) (by first | exact resIs_tmp (by ((conv=>lhs;whnf)<;>exact rfl)) | exact resIs_cellA 0 rfl rfl rfl | exact resIs_cellA 1 rfl rfl rfl | exact resIs_cellA 2 rfl rfl rfl | exact resIs_cellA 3 rfl rfl rfl | exact resIs_cellA 4 rfl rfl rfl | exact resIs_cellA 5 rfl rfl rfl | exact resIs_cellA 6 rfl rfl rfl | exact resIs_cellA 7 rfl rfl rfl | exact resIs_cellA 8 rfl rfl rfl | exact resIs_cellA 9 rfl rfl rfl) ?_
      exact ⟨_, Ent.nil, .inl ⟨by rw [ftE_dup hc, hhit (by omega) hk2, hdd]; decide, by rw [ftE_dup hc, hhit (by omega) hk2, hdd], rfl⟩⟩
    | false =>
      rw [if_neg (by rw [hcn]; simp)] at hdd
      repeat' (first|(apply OK_seq)|(apply thenQ_n)|(apply OK_region)|(apply OKx_gl; refine OKx_ldW 0 rfl rfl hk2 hat ?_)|(refine OKx_slH rfl rfl (by omega) ?_)|(apply OKx_gc 26;exact rfl; refine OKx_callV (f := 26) (v := .bool false) rfl rfl rfl (fun w1 hp => by have := conS_sat _ _ ((ftN t t.par.length).getD k ByteArray.empty) w1 ((hp.strs 0 rfl (by omega) hsz).take k nc (by omega) (by omega)); rwa [hcn] at this) ?_)|(refine OK_rid 13 ?_; refine OK_mix [0, 1, 5, 6, 7, 10, 11, 12] [2] [] [3, 4, 8, 9, 13, 14, 15, 16, 17, 18, 19, 20] [] (id := 13) (by kernel_rfl) (by kernel_rfl) rfl (Ent.nil) (by ((try simp only [pickO, nthO, List.cons_append, List.nil_append]) <;> exact rfl)) (by ((try simp only [pickO, nthO, List.cons_append, List.nil_append]) <;> exact rfl)) (by ((try simp only [pickO]) <;> exact rfl)) (by ((try simp only [pickO, nthO, List.cons_append, List.nil_append]) <;> exact rfl)) ?_)|(apply OKx_nilK)|(apply OK_block)|(apply blockQ_n)|(apply blockQ_s)|(apply thenQ_e)|(apply blockQ_e;exact rfl)|(apply thenQ_r)|(apply blockQ_r)|(apply OK_condT;exact rfl)|(apply OK_condF;exact rfl)|(apply OK_skip)|(apply OK_exit)|(apply OK_ret)|(apply OKx_move;(conv=>lhs;whnf)<;>exact rfl)|(apply OKx_assign;(conv=>lhs;whnf)<;>exact rfl)|(apply OKx_ldB;exact rfl;(first | exact at0|exact at1|exact at2|exact at3|exact at4|exact at5|exact at6|exact at7);exact rfl)|(apply OKx_ldR;(conv=>lhs;whnf)<;>exact rfl;(with_reducible assumption))|(apply OKx_ldI;exact rfl;(first | exact at0|exact at1|exact at2|exact at3|exact at4|exact at5|exact at6|exact at7);omega)|(apply OKx_len;exact rfl)|(apply OKx_lenR;(conv=>lhs;whnf)<;>exact rfl;(with_reducible assumption))|(apply OKx_lenR2;(conv=>lhs;whnf)<;>exact rfl;(with_reducible assumption))|(apply OKx_lenO;(conv=>lhs;whnf)<;>exact rfl;(first | exact at0|exact at1|exact at2|exact at3|exact at4|exact at5|exact at6|exact at7))|(apply OKx_lss;exact rfl;exact rfl;all_goals (intro _; try (exfalso;omega)))|(apply OKx_gtr;exact rfl;exact rfl;all_goals (intro _; try (exfalso;omega)))|(apply OKx_neq;exact rfl;exact rfl;all_goals (intro _; try (exfalso;omega)))|(apply OKx_sneq;exact rfl;exact rfl; all_goals intro _)|(apply OKx_idxO;exact rfl;exact rfl;omega)|(apply OKx_idxR;(conv=>lhs;whnf)<;>exact rfl;(with_reducible assumption);exact rfl;omega;intro _ _)|(apply OKx_idxOz;exact rfl;exact rfl;omega;omega)|(apply OKx_idxRz;(conv=>lhs;whnf)<;>exact rfl;(with_reducible assumption);exact rfl;omega;omega;intro _ _)|(apply OKx_fldO;exact rfl;exact rfl)|(apply OKx_fldR;(conv=>lhs;whnf)<;>exact rfl;(with_reducible assumption); decide;intro _ _)|(apply OKx_inc;exact rfl;exact rfl;omega)|(apply OKx_addN;exact rfl;exact rfl;omega)|(apply OKx_add;exact rfl;exact rfl;omega;omega)|(apply OKx_notT;exact rfl)|(apply OKx_notF;exact rfl)|(apply OKx_boxA;exact rfl;intro _)|(apply OKx_allocA;intro _)|(apply OKx_ldBA;exact rfl;(first | exact at0|exact at1|exact at2|exact at3|exact at4|exact at5|exact at6|exact at7);exact rfl)|(apply OKx_ldRA;(conv=>lhs;whnf)<;>exact rfl;(with_reducible assumption))|(apply OKx_stB;exact rfl;(conv=>lhs;whnf)<;>exact rfl;exact rfl;exact rfl;(first | exact at0|exact at1|exact at2|exact at3|exact at4|exact at5|exact at6|exact at7);exact rfl;exact rfl;exact rfl)|(apply OKx_slit1;(conv=>lhs;whnf)<;>exact rfl;exact rfl;intro _)|(apply OKx_stBA; kernel_rfl;exact rfl;exact rfl;exact rfl;(first | exact at0|exact at1|exact at2|exact at3|exact at4|exact at5|exact at6|exact at7);exact rfl;exact rfl;exact rfl)|(apply OKx_build0))
      refine ⟨by (repeat' (first | refine agree_upd rfl ?_ | exact agree_over | exact agree_refl _ _ | refine agree_over2 rfl ?_)), m2 - 1, _, by omega, Ent.refl _ _, ?_⟩
      exact ⟨k + 1, by omega, rfl, hstp hdd, rfl⟩
  have hsN := ftN_step t k
  have hsX := ftX_step t k
  have hsP := ftP_step t k
  have hit := fun w1 => itoa64_sat k (by omega) w1
  have hdl := decDigits_len k (by omega)
  have hbz : (bOf (Lib.decDigits k)).size = (Lib.decDigits k).length := bOf_size _
  have hw : treW t k = if t.names.getD k ByteArray.empty = ByteArray.empty then itS k else t.names.getD k ByteArray.empty := rfl
  have hxx : ∀ b : Bool, b = decide (t.names.getD k ByteArray.empty ≠ ByteArray.empty) → Value.bool b = .bool (decide (t.names.getD k ByteArray.empty ≠ ByteArray.empty)) := fun b e => by rw [e]
  by_cases he : t.names.getD k ByteArray.empty = ByteArray.empty <;> by_cases hk0 : k = 0
  · skip
    rw [if_pos he] at hw
    have hx9 := hxx false (decide_eq_false (fun h => h he)).symm
    have hy9 : ∀ w0 w1, Hp w0.heap.size w0 w1 Z → Ints w1 (.slice none 0 0) (if k = 0 then [] else [t.par.getD k 0]) := fun w0 w1 _ => by rw [if_pos hk0]; exact Ints.nil w1
    repeat' (first|(apply OK_seq)|(apply thenQ_n)|(apply OK_region)|(apply OKx_gn; apply OKx_sneq;exact rfl;exact rfl; all_goals (intro hs9; first | (exfalso; exact hs9 he) | skip))|(apply OKx_gc 25;exact rfl; refine OKx_callV (f := 25) rfl rfl rfl (fun w1 hp => hit w1) ?_)|(apply OKx_gn; refine OKx_sadd rfl rfl (by rw [hbz]; show 1 + _ ≤ _;omega) ?_; rw [itS_app, ← hw])|(apply OKx_nilK)|(apply OK_block)|(apply blockQ_n)|(apply blockQ_s)|(apply thenQ_e)|(apply blockQ_e;exact rfl)|(apply thenQ_r)|(apply blockQ_r)|(apply OK_condT;exact rfl)|(apply OK_condF;exact rfl)|(apply OK_skip)|(apply OK_exit)|(apply OK_ret)|(apply OKx_move;(conv=>lhs;whnf)<;>exact rfl)|(apply OKx_assign;(conv=>lhs;whnf)<;>exact rfl)|(apply OKx_ldB;exact rfl;(first | exact at0|exact at1|exact at2|exact at3|exact at4|exact at5|exact at6|exact at7);exact rfl)|(apply OKx_ldR;(conv=>lhs;whnf)<;>exact rfl;(with_reducible assumption))|(apply OKx_ldI;exact rfl;(first | exact at0|exact at1|exact at2|exact at3|exact at4|exact at5|exact at6|exact at7);omega)|(apply OKx_len;exact rfl)|(apply OKx_lenR;(conv=>lhs;whnf)<;>exact rfl;(with_reducible assumption))|(apply OKx_lenR2;(conv=>lhs;whnf)<;>exact rfl;(with_reducible assumption))|(apply OKx_lenO;(conv=>lhs;whnf)<;>exact rfl;(first | exact at0|exact at1|exact at2|exact at3|exact at4|exact at5|exact at6|exact at7))|(apply OKx_lss;exact rfl;exact rfl;all_goals (intro _; try (exfalso;omega)))|(apply OKx_gtr;exact rfl;exact rfl;all_goals (intro _; try (exfalso;omega)))|(apply OKx_neq;exact rfl;exact rfl;all_goals (intro _; try (exfalso;omega)))|(apply OKx_sneq;exact rfl;exact rfl; all_goals intro _)|(apply OKx_idxO;exact rfl;exact rfl;omega)|(apply OKx_idxR;(conv=>lhs;whnf)<;>exact rfl;(with_reducible assumption);exact rfl;omega;intro _ _)|(apply OKx_idxOz;exact rfl;exact rfl;omega;omega)|(apply OKx_idxRz;(conv=>lhs;whnf)<;>exact rfl;(with_reducible assumption);exact rfl;omega;omega;intro _ _)|(apply OKx_fldO;exact rfl;exact rfl)|(apply OKx_fldR;(conv=>lhs;whnf)<;>exact rfl;(with_reducible assumption); decide;intro _ _)|(apply OKx_inc;exact rfl;exact rfl;omega)|(apply OKx_addN;exact rfl;exact rfl;omega)|(apply OKx_add;exact rfl;exact rfl;omega;omega)|(apply OKx_notT;exact rfl)|(apply OKx_notF;exact rfl)|(apply OKx_boxA;exact rfl;intro _)|(apply OKx_allocA;intro _)|(apply OKx_ldBA;exact rfl;(first | exact at0|exact at1|exact at2|exact at3|exact at4|exact at5|exact at6|exact at7);exact rfl)|(apply OKx_ldRA;(conv=>lhs;whnf)<;>exact rfl;(with_reducible assumption))|(apply OKx_stB;exact rfl;(conv=>lhs;whnf)<;>exact rfl;exact rfl;exact rfl;(first | exact at0|exact at1|exact at2|exact at3|exact at4|exact at5|exact at6|exact at7);exact rfl;exact rfl;exact rfl)|(apply OKx_slit1;(conv=>lhs;whnf)<;>exact rfl;exact rfl;intro _)|(apply OKx_stBA; kernel_rfl;exact rfl;exact rfl;exact rfl;(first | exact at0|exact at1|exact at2|exact at3|exact at4|exact at5|exact at6|exact at7);exact rfl;exact rfl;exact rfl)|(refine OKa_end (S := []) (by kernel_rfl) ?_))
    refine OK_pureAnz4 21 12 5 16 [0, 1, 2, 5, 6, 7, 10, 11, 12] [.box 26 go [.slice na k nc, .slice ea k ec, .slice pa k pc]] [0, 1, 2, 3, 4, 5, 6, 7, 8, 9, 10, 11, 12, 13, 14, 15] [38, 39, 40, 41, 42, 43, 44, 45, 46, 47, 48, 49, 50, 51, 52, 53, 54, 55] 42 47 52 53
      (fun v1 v2 v3 v4 L => ∃ (gA cA gB cB gC cC : Nat) (x y : Value) (Z2 : List Res), v1 = .slice (some ⟨gA, 0, none⟩) (k + 1) cA ∧ v2 = .slice (some ⟨gB, 0, none⟩) (k + 1) cB ∧ v3 = .slice (some ⟨gC, 0, none⟩) (k + 1) cC ∧ v4 = .pointer (some ⟨go, 0, none⟩) ∧
        L = .row 9 1 (.slice (some ⟨gA, 0, none⟩) (k + 1) cA) (k + 1) (strs (ftN t k) ++ [.string (treW t k)]) :: .row 4 1 (.slice (some ⟨gB, 0, none⟩) (k + 1) cB) (k + 1) (bools (ftX t k) ++ [x]) :: .row 27 1 (.slice (some ⟨gC, 0, none⟩) (k + 1) cC) (k + 1) (vs ++ [y]) :: .box 26 go [.slice na k nc, .slice ea k ec, .slice pa k pc] :: .box 26 gr [.slice none 0 0, .slice none 0 0, .slice none 0 0] :: .box 41 gt [pv, nv] :: Z2 ∧
        x = .bool (decide (t.names.getD k ByteArray.empty ≠ ByteArray.empty)) ∧ (∀ w0 w1, Hp w0.heap.size w0 w1 Z2 → Ints w1 y (if k = 0 then [] else [t.par.getD k 0])) ∧ (∀ w0 w1, Hp w0.heap.size w0 w1 Z2 → Hp w0.heap.size w0 w1 Z))
      (id := 13) (by kernel_rfl) (by kernel_rfl) (by kernel_rfl) (by kernel_rfl) (by kernel_rfl) (by kernel_rfl) (Ent.pick [3] rfl) (by ((try simp only [pickO, nthO, List.cons_append, List.nil_append, List.append_nil]) <;> exact rfl)) (by kernel_rfl) ?_ ?_
    · rintro v1 v2 v3 v4 L1 G9 ⟨gA, cA, gB, cB, gC, cC, x, y, Z2, rfl, rfl, rfl, rfl, rfl, rfl, hy, hz2⟩
      repeat' (first|(apply OK_seq)|(apply thenQ_n)|(apply OK_region)|(refine OKd_step1 (S := [0, 1, 2, 3, 4, 5, 6, 7, 8, 9, 10, 11, 12, 13, 14, 15]) (i1 := 16) (S1 := [0, 1, 2, 3, 4, 5, 6, 7, 8, 9, 10, 11, 12, 13, 14, 15, 16]) (.inr (Ent.pick [3] rfl)) (by kernel_rfl) (by kernel_rfl) rfl ?_)|(refine OKd_step1 (S := [0, 1, 2, 3, 4, 5, 6, 7, 8, 9, 10, 11, 12, 13, 14, 15, 16]) (i1 := 17) (S1 := [0, 1, 2, 3, 4, 5, 6, 7, 8, 9, 10, 11, 12, 13, 14, 15, 16, 17]) (.inl (by kernel_rfl)) (by kernel_rfl) (by kernel_rfl) rfl ?_)|(refine OKd_step1 (S := [0, 1, 2, 3, 4, 5, 6, 7, 8, 9, 10, 11, 12, 13, 14, 15, 16, 17]) (i1 := 18) (S1 := [0, 1, 2, 3, 4, 5, 6, 7, 8, 9, 10, 11, 12, 13, 14, 15, 16, 17, 18]) (.inl (by kernel_rfl)) (by kernel_rfl) (by kernel_rfl) rfl ?_)|(refine OKd_step1 (S := [0, 1, 2, 3, 4, 5, 6, 7, 8, 9, 10, 11, 12, 13, 14, 15, 16, 17, 18]) (i1 := 19) (S1 := [0, 1, 2, 3, 4, 5, 6, 7, 8, 9, 10, 11, 12, 13, 14, 15, 16, 17, 18, 19]) (.inl (by kernel_rfl)) (by kernel_rfl) (by kernel_rfl) rfl ?_)|(refine OKd_step1 (S := [0, 1, 2, 3, 4, 5, 6, 7, 8, 9, 10, 11, 12, 13, 14, 15, 16, 17, 18, 19]) (i1 := 20) (S1 := [0, 1, 2, 3, 4, 5, 6, 7, 8, 9, 10, 11, 12, 13, 14, 15, 16, 17, 18, 19, 20]) (.inl (by kernel_rfl)) (by kernel_rfl) (by kernel_rfl) rfl ?_)|(refine OKd_end (S := [0, 1, 2, 3, 4, 5, 6, 7, 8, 9, 10, 11, 12, 13, 14, 15, 16, 17, 18, 19, 20]) (by kernel_rfl) (.inl (by kernel_rfl)) ?_)|(refine OK_rid 13 ?_; refine OK_mix [0, 1, 5, 6, 7, 10, 11, 12] [2] [] [3, 4, 8, 9, 13, 14, 15, 16, 17, 18, 19, 20] [] (id := 13) (by kernel_rfl) (by kernel_rfl) rfl (Ent.nil) (by ((try simp only [pickO, nthO, List.cons_append, List.nil_append]) <;> exact rfl)) (by ((try simp only [pickO, nthO, List.cons_append, List.nil_append]) <;> exact rfl)) (by ((try simp only [pickO]) <;> exact rfl)) (by ((try simp only [pickO, nthO, List.cons_append, List.nil_append]) <;> exact rfl)) ?_)|(apply OKx_nilK)|(apply OK_block)|(apply blockQ_n)|(apply blockQ_s)|(apply thenQ_e)|(apply blockQ_e;exact rfl)|(apply thenQ_r)|(apply blockQ_r)|(apply OK_condT;exact rfl)|(apply OK_condF;exact rfl)|(apply OK_skip)|(apply OK_exit)|(apply OK_ret)|(apply OKx_move;(conv=>lhs;whnf)<;>exact rfl)|(apply OKx_assign;(conv=>lhs;whnf)<;>exact rfl)|(apply OKx_ldB;exact rfl;(first | exact at0|exact at1|exact at2|exact at3|exact at4|exact at5|exact at6|exact at7);exact rfl)|(apply OKx_ldR;(conv=>lhs;whnf)<;>exact rfl;(with_reducible assumption))|(apply OKx_ldI;exact rfl;(first | exact at0|exact at1|exact at2|exact at3|exact at4|exact at5|exact at6|exact at7);omega)|(apply OKx_len;exact rfl)|(apply OKx_lenR;(conv=>lhs;whnf)<;>exact rfl;(with_reducible assumption))|(apply OKx_lenR2;(conv=>lhs;whnf)<;>exact rfl;(with_reducible assumption))|(apply OKx_lenO;(conv=>lhs;whnf)<;>exact rfl;(first | exact at0|exact at1|exact at2|exact at3|exact at4|exact at5|exact at6|exact at7))|(apply OKx_lss;exact rfl;exact rfl;all_goals (intro _; try (exfalso;omega)))|(apply OKx_gtr;exact rfl;exact rfl;all_goals (intro _; try (exfalso;omega)))|(apply OKx_neq;exact rfl;exact rfl;all_goals (intro _; try (exfalso;omega)))|(apply OKx_sneq;exact rfl;exact rfl; all_goals intro _)|(apply OKx_idxO;exact rfl;exact rfl;omega)|(apply OKx_idxR;(conv=>lhs;whnf)<;>exact rfl;(with_reducible assumption);exact rfl;omega;intro _ _)|(apply OKx_idxOz;exact rfl;exact rfl;omega;omega)|(apply OKx_idxRz;(conv=>lhs;whnf)<;>exact rfl;(with_reducible assumption);exact rfl;omega;omega;intro _ _)|(apply OKx_fldO;exact rfl;exact rfl)|(apply OKx_fldR;(conv=>lhs;whnf)<;>exact rfl;(with_reducible assumption); decide;intro _ _)|(apply OKx_inc;exact rfl;exact rfl;omega)|(apply OKx_addN;exact rfl;exact rfl;omega)|(apply OKx_add;exact rfl;exact rfl;omega;omega)|(apply OKx_notT;exact rfl)|(apply OKx_notF;exact rfl)|(apply OKx_boxA;exact rfl;intro _)|(apply OKx_allocA;intro _)|(apply OKx_ldBA;exact rfl;(first | exact at0|exact at1|exact at2|exact at3|exact at4|exact at5|exact at6|exact at7);exact rfl)|(apply OKx_ldRA;(conv=>lhs;whnf)<;>exact rfl;(with_reducible assumption))|(apply OKx_stB;exact rfl;(conv=>lhs;whnf)<;>exact rfl;exact rfl;exact rfl;(first | exact at0|exact at1|exact at2|exact at3|exact at4|exact at5|exact at6|exact at7);exact rfl;exact rfl;exact rfl)|(apply OKx_slit1;(conv=>lhs;whnf)<;>exact rfl;exact rfl;intro _)|(apply OKx_stBA; kernel_rfl;exact rfl;exact rfl;exact rfl;(first | exact at0|exact at1|exact at2|exact at3|exact at4|exact at5|exact at6|exact at7);exact rfl;exact rfl;exact rfl))
      refine ⟨by (repeat' (first | refine agree_upd rfl ?_ | exact agree_over | exact agree_refl _ _ | refine agree_over2 rfl ?_)), m - 1, _, by omega, Ent.refl _ _, ?_⟩
      exact ft_next t go gr gt pv nv k m gA cA gB cB gC cC vs Z Z2 y hm hk hvl hZ hy hz2
    · intro hS0
      repeat' (first|(apply OK_seq)|(apply thenQ_n)|(apply OK_region)|(refine OK_rid 13 ?_; refine OK_mix [0, 1, 5, 6, 7, 10, 11, 12] [2] [] [3, 4, 8, 9, 13, 14, 15, 16, 17, 18, 19, 20] [] (id := 13) (by kernel_rfl) (by kernel_rfl) rfl (Ent.nil) (by ((try simp only [pickO, nthO, List.cons_append, List.nil_append]) <;> exact rfl)) (by ((try simp only [pickO, nthO, List.cons_append, List.nil_append]) <;> exact rfl)) (by ((try simp only [pickO]) <;> exact rfl)) (by ((try simp only [pickO, nthO, List.cons_append, List.nil_append]) <;> exact rfl)) ?_)|(apply OKx_nilK)|(apply OK_block)|(apply blockQ_n)|(apply blockQ_s)|(apply thenQ_e)|(apply blockQ_e;exact rfl)|(apply thenQ_r)|(apply blockQ_r)|(apply OK_condT;exact rfl)|(apply OK_condF;exact rfl)|(apply OK_skip)|(apply OK_exit)|(apply OK_ret)|(apply OKx_move;(conv=>lhs;whnf)<;>exact rfl)|(apply OKx_assign;(conv=>lhs;whnf)<;>exact rfl)|(apply OKx_ldB;exact rfl;(first | exact at0|exact at1|exact at2|exact at3|exact at4|exact at5|exact at6|exact at7);exact rfl)|(apply OKx_ldR;(conv=>lhs;whnf)<;>exact rfl;(with_reducible assumption))|(apply OKx_ldI;exact rfl;(first | exact at0|exact at1|exact at2|exact at3|exact at4|exact at5|exact at6|exact at7);omega)|(apply OKx_len;exact rfl)|(apply OKx_lenR;(conv=>lhs;whnf)<;>exact rfl;(with_reducible assumption))|(apply OKx_lenR2;(conv=>lhs;whnf)<;>exact rfl;(with_reducible assumption))|(apply OKx_lenO;(conv=>lhs;whnf)<;>exact rfl;(first | exact at0|exact at1|exact at2|exact at3|exact at4|exact at5|exact at6|exact at7))|(apply OKx_lss;exact rfl;exact rfl;all_goals (intro _; try (exfalso;omega)))|(apply OKx_gtr;exact rfl;exact rfl;all_goals (intro _; try (exfalso;omega)))|(apply OKx_neq;exact rfl;exact rfl;all_goals (intro _; try (exfalso;omega)))|(apply OKx_sneq;exact rfl;exact rfl; all_goals intro _)|(apply OKx_idxO;exact rfl;exact rfl;omega)|(apply OKx_idxR;(conv=>lhs;whnf)<;>exact rfl;(with_reducible assumption);exact rfl;omega;intro _ _)|(apply OKx_idxOz;exact rfl;exact rfl;omega;omega)|(apply OKx_idxRz;(conv=>lhs;whnf)<;>exact rfl;(with_reducible assumption);exact rfl;omega;omega;intro _ _)|(apply OKx_fldO;exact rfl;exact rfl)|(apply OKx_fldR;(conv=>lhs;whnf)<;>exact rfl;(with_reducible assumption); decide;intro _ _)|(apply OKx_inc;exact rfl;exact rfl;omega)|(apply OKx_addN;exact rfl;exact rfl;omega)|(apply OKx_add;exact rfl;exact rfl;omega;omega)|(apply OKx_notT;exact rfl)|(apply OKx_notF;exact rfl)|(apply OKx_boxA;exact rfl;intro _)|(apply OKx_allocA;intro _)|(apply OKx_ldBA;exact rfl;(first | exact at0|exact at1|exact at2|exact at3|exact at4|exact at5|exact at6|exact at7);exact rfl)|(apply OKx_ldRA;(conv=>lhs;whnf)<;>exact rfl;(with_reducible assumption))|(apply OKx_stB;exact rfl;(conv=>lhs;whnf)<;>exact rfl;exact rfl;exact rfl;(first | exact at0|exact at1|exact at2|exact at3|exact at4|exact at5|exact at6|exact at7);exact rfl;exact rfl;exact rfl)|(apply OKx_slit1;(conv=>lhs;whnf)<;>exact rfl;exact rfl;intro _)|(apply OKx_stBA; kernel_rfl;exact rfl;exact rfl;exact rfl;(first | exact at0|exact at1|exact at2|exact at3|exact at4|exact at5|exact at6|exact at7);exact rfl;exact rfl;exact rfl))
      refine OKd_step3 (S := [0, 1, 2, 5, 6, 7, 10, 11, 12]) (i1 := 3) (S1 := [0, 1, 2, 3, 5, 6, 7, 10, 11, 12]) (i2 := 8) (S2 := [0, 1, 2, 5, 6, 7, 8, 10, 11, 12]) (i3 := 13) (S3 := [0, 1, 2, 5, 6, 7, 10, 11, 12, 13]) (.inr (Ent.pick [3] rfl)) (by kernel_rfl) (by kernel_rfl) (by kernel_rfl) (by kernel_rfl) rfl rfl rfl ?_ ?_ ?_
      · apply OKx_slit1; (focus ((conv=>lhs;whnf)<;>exact rfl)); (focus exact rfl);intro _
        apply OKx_nilK
        refine OKd_step3 (S := [0, 1, 2, 3, 5, 6, 7, 10, 11, 12]) (i1 := 4) (S1 := [0, 1, 2, 3, 4, 5, 6, 7, 10, 11, 12]) (i2 := 8) (S2 := [0, 1, 2, 3, 5, 6, 7, 8, 10, 11, 12]) (i3 := 13) (S3 := [0, 1, 2, 3, 5, 6, 7, 10, 11, 12, 13]) (.inr (Ent.pick [4] rfl)) (by kernel_rfl) (by kernel_rfl) (by kernel_rfl) (by kernel_rfl) rfl rfl rfl ?_ ?_ ?_
        · refine OKx_append1 1 0 rfl rfl rfl rfl rfl (by omega) (by omega) ?_; intro gA cA
          apply OKx_nilK
          refine OKd_pure (S := [0, 1, 2, 3, 4, 5, 6, 7, 10, 11, 12]) (i := 15) (S1 := [0, 1, 2, 3, 4, 5, 6, 7, 10, 11, 12, 15]) (by kernel_rfl) (by kernel_rfl) (by kernel_rfl) rfl ?_
          apply OKx_fldO; (focus ((conv=>lhs;whnf)<;>exact rfl)); (focus exact rfl)
          apply OKx_nilK
          refine OKd_step2 (S := [0, 1, 2, 3, 4, 5, 6, 7, 10, 11, 12, 15]) (i1 := 8) (S1 := [0, 1, 2, 3, 4, 5, 6, 7, 8, 10, 11, 12, 15]) (i2 := 13) (S2 := [0, 1, 2, 3, 4, 5, 6, 7, 10, 11, 12, 13, 15]) (.inr (Ent.pick [4] rfl)) (by kernel_rfl) (by kernel_rfl) (by kernel_rfl) rfl rfl ?_ ?_
          · apply OKx_slit1; (focus ((conv=>lhs;whnf)<;>exact rfl)); (focus exact rfl);intro _
            apply OKx_nilK
            refine OKd_step2 (S := [0, 1, 2, 3, 4, 5, 6, 7, 8, 10, 11, 12, 15]) (i1 := 9) (S1 := [0, 1, 2, 3, 4, 5, 6, 7, 8, 9, 10, 11, 12, 15]) (i2 := 13) (S2 := [0, 1, 2, 3, 4, 5, 6, 7, 8, 10, 11, 12, 13, 15]) (.inr (Ent.pick [5] rfl)) (by kernel_rfl) (by kernel_rfl) (by kernel_rfl) rfl rfl ?_ ?_
            · refine OKx_append1 3 0 rfl rfl rfl rfl rfl (by omega) (by omega) ?_; intro gB cB
              apply OKx_nilK
              refine OKd_step1 (S := [0, 1, 2, 3, 4, 5, 6, 7, 8, 9, 10, 11, 12, 15]) (i1 := 13) (S1 := [0, 1, 2, 3, 4, 5, 6, 7, 8, 9, 10, 11, 12, 13, 15]) (.inr (Ent.pick [5] rfl)) (by kernel_rfl) (by kernel_rfl) rfl ?_
              · apply OKx_slit1; (focus ((conv=>lhs;whnf)<;>exact rfl)); (focus exact rfl);intro _
                apply OKx_nilK
                refine OKd_step1 (S := [0, 1, 2, 3, 4, 5, 6, 7, 8, 9, 10, 11, 12, 13, 15]) (i1 := 14) (S1 := [0, 1, 2, 3, 4, 5, 6, 7, 8, 9, 10, 11, 12, 13, 14, 15]) (.inr (Ent.pick [6] rfl)) (by kernel_rfl) (by kernel_rfl) rfl ?_
                · refine OKx_append1 5 0 rfl rfl rfl rfl rfl (by omega) (by omega) ?_; intro gC cC
                  apply OKx_nilK
                  exact hS0 _ _ ⟨by (repeat' (first | refine agree_upd rfl ?_ | exact agree_over | exact agree_refl _ _ | refine agree_over2 rfl ?_)), _, Ent.sub ((((List.Sublist.refl _).cons _).cons _).cons _), gA, cA, gB, cB, gC, cC, _, _, _, rfl, rfl, rfl, rfl, rfl, hx9, hy9, fun _ _ h => h⟩
            · apply OKx_slit1; (focus ((conv=>lhs;whnf)<;>exact rfl)); (focus exact rfl);intro _
              apply OKx_nilK
              refine OKd_step1 (S := [0, 1, 2, 3, 4, 5, 6, 7, 8, 10, 11, 12, 13, 15]) (i1 := 9) (S1 := [0, 1, 2, 3, 4, 5, 6, 7, 8, 9, 10, 11, 12, 13, 15]) (.inr (Ent.pick [6] rfl)) (by kernel_rfl) (by kernel_rfl) rfl ?_
              · refine OKx_append1 4 1 rfl rfl rfl rfl rfl (by omega) (by omega) ?_; intro gB cB
                apply OKx_nilK
                refine OKd_step1 (S := [0, 1, 2, 3, 4, 5, 6, 7, 8, 9, 10, 11, 12, 13, 15]) (i1 := 14) (S1 := [0, 1, 2, 3, 4, 5, 6, 7, 8, 9, 10, 11, 12, 13, 14, 15]) (.inr (Ent.pick [6] rfl)) (by kernel_rfl) (by kernel_rfl) rfl ?_
                · refine OKx_append1 5 0 rfl rfl rfl rfl rfl (by omega) (by omega) ?_; intro gC cC
                  apply OKx_nilK
                  exact hS0 _ _ ⟨by (repeat' (first | refine agree_upd rfl ?_ | exact agree_over | exact agree_refl _ _ | refine agree_over2 rfl ?_)), _, Ent.sub ((((List.Sublist.refl _).cons _).cons _).cons _), gA, cA, gB, cB, gC, cC, _, _, _, rfl, rfl, rfl, rfl, rfl, hx9, hy9, fun _ _ h => h⟩
          · apply OKx_slit1; (focus ((conv=>lhs;whnf)<;>exact rfl)); (focus exact rfl);intro _
            apply OKx_nilK
            refine OKd_step1 (S := [0, 1, 2, 3, 4, 5, 6, 7, 10, 11, 12, 13, 15]) (i1 := 8) (S1 := [0, 1, 2, 3, 4, 5, 6, 7, 8, 10, 11, 12, 13, 15]) (.inr (Ent.pick [5] rfl)) (by kernel_rfl) (by kernel_rfl) rfl ?_
            · apply OKx_slit1; (focus ((conv=>lhs;whnf)<;>exact rfl)); (focus exact rfl);intro _
              apply OKx_nilK
              refine OKd_step1 (S := [0, 1, 2, 3, 4, 5, 6, 7, 8, 10, 11, 12, 13, 15]) (i1 := 9) (S1 := [0, 1, 2, 3, 4, 5, 6, 7, 8, 9, 10, 11, 12, 13, 15]) (.inr (Ent.pick [6] rfl)) (by kernel_rfl) (by kernel_rfl) rfl ?_
              · refine OKx_append1 4 0 rfl rfl rfl rfl rfl (by omega) (by omega) ?_; intro gB cB
                apply OKx_nilK
                refine OKd_step1 (S := [0, 1, 2, 3, 4, 5, 6, 7, 8, 9, 10, 11, 12, 13, 15]) (i1 := 14) (S1 := [0, 1, 2, 3, 4, 5, 6, 7, 8, 9, 10, 11, 12, 13, 14, 15]) (.inr (Ent.pick [6] rfl)) (by kernel_rfl) (by kernel_rfl) rfl ?_
                · refine OKx_append1 5 1 rfl rfl rfl rfl rfl (by omega) (by omega) ?_; intro gC cC
                  apply OKx_nilK
                  exact hS0 _ _ ⟨by (repeat' (first | refine agree_upd rfl ?_ | exact agree_over | exact agree_refl _ _ | refine agree_over2 rfl ?_)), _, Ent.sub ((((List.Sublist.refl _).cons _).cons _).cons _), gA, cA, gB, cB, gC, cC, _, _, _, rfl, rfl, rfl, rfl, rfl, hx9, hy9, fun _ _ h => h⟩
        · apply OKx_slit1; (focus ((conv=>lhs;whnf)<;>exact rfl)); (focus exact rfl);intro _
          apply OKx_nilK
          refine OKd_step2 (S := [0, 1, 2, 3, 5, 6, 7, 8, 10, 11, 12]) (i1 := 4) (S1 := [0, 1, 2, 3, 4, 5, 6, 7, 8, 10, 11, 12]) (i2 := 13) (S2 := [0, 1, 2, 3, 5, 6, 7, 8, 10, 11, 12, 13]) (.inr (Ent.pick [5] rfl)) (by kernel_rfl) (by kernel_rfl) (by kernel_rfl) rfl rfl ?_ ?_
          · refine OKx_append1 2 1 rfl rfl rfl rfl rfl (by omega) (by omega) ?_; intro gA cA
            apply OKx_nilK
            refine OKd_pure (S := [0, 1, 2, 3, 4, 5, 6, 7, 8, 10, 11, 12]) (i := 15) (S1 := [0, 1, 2, 3, 4, 5, 6, 7, 8, 10, 11, 12, 15]) (by kernel_rfl) (by kernel_rfl) (by kernel_rfl) rfl ?_
            apply OKx_fldO; (focus ((conv=>lhs;whnf)<;>exact rfl)); (focus exact rfl)
            apply OKx_nilK
            refine OKd_step2 (S := [0, 1, 2, 3, 4, 5, 6, 7, 8, 10, 11, 12, 15]) (i1 := 9) (S1 := [0, 1, 2, 3, 4, 5, 6, 7, 8, 9, 10, 11, 12, 15]) (i2 := 13) (S2 := [0, 1, 2, 3, 4, 5, 6, 7, 8, 10, 11, 12, 13, 15]) (.inr (Ent.pick [5] rfl)) (by kernel_rfl) (by kernel_rfl) (by kernel_rfl) rfl rfl ?_ ?_
            · refine OKx_append1 3 0 rfl rfl rfl rfl rfl (by omega) (by omega) ?_; intro gB cB
              apply OKx_nilK
              refine OKd_step1 (S := [0, 1, 2, 3, 4, 5, 6, 7, 8, 9, 10, 11, 12, 15]) (i1 := 13) (S1 := [0, 1, 2, 3, 4, 5, 6, 7, 8, 9, 10, 11, 12, 13, 15]) (.inr (Ent.pick [5] rfl)) (by kernel_rfl) (by kernel_rfl) rfl ?_
              · apply OKx_slit1; (focus ((conv=>lhs;whnf)<;>exact rfl)); (focus exact rfl);intro _
                apply OKx_nilK
                refine OKd_step1 (S := [0, 1, 2, 3, 4, 5, 6, 7, 8, 9, 10, 11, 12, 13, 15]) (i1 := 14) (S1 := [0, 1, 2, 3, 4, 5, 6, 7, 8, 9, 10, 11, 12, 13, 14, 15]) (.inr (Ent.pick [6] rfl)) (by kernel_rfl) (by kernel_rfl) rfl ?_
                · refine OKx_append1 5 0 rfl rfl rfl rfl rfl (by omega) (by omega) ?_; intro gC cC
                  apply OKx_nilK
                  exact hS0 _ _ ⟨by (repeat' (first | refine agree_upd rfl ?_ | exact agree_over | exact agree_refl _ _ | refine agree_over2 rfl ?_)), _, Ent.sub ((((List.Sublist.refl _).cons _).cons _).cons _), gA, cA, gB, cB, gC, cC, _, _, _, rfl, rfl, rfl, rfl, rfl, hx9, hy9, fun _ _ h => h⟩
            · apply OKx_slit1; (focus ((conv=>lhs;whnf)<;>exact rfl)); (focus exact rfl);intro _
              apply OKx_nilK
              refine OKd_step1 (S := [0, 1, 2, 3, 4, 5, 6, 7, 8, 10, 11, 12, 13, 15]) (i1 := 9) (S1 := [0, 1, 2, 3, 4, 5, 6, 7, 8, 9, 10, 11, 12, 13, 15]) (.inr (Ent.pick [6] rfl)) (by kernel_rfl) (by kernel_rfl) rfl ?_
              · refine OKx_append1 4 1 rfl rfl rfl rfl rfl (by omega) (by omega) ?_; intro gB cB
                apply OKx_nilK
                refine OKd_step1 (S := [0, 1, 2, 3, 4, 5, 6, 7, 8, 9, 10, 11, 12, 13, 15]) (i1 := 14) (S1 := [0, 1, 2, 3, 4, 5, 6, 7, 8, 9, 10, 11, 12, 13, 14, 15]) (.inr (Ent.pick [6] rfl)) (by kernel_rfl) (by kernel_rfl) rfl ?_
                · refine OKx_append1 5 0 rfl rfl rfl rfl rfl (by omega) (by omega) ?_; intro gC cC
                  apply OKx_nilK
                  exact hS0 _ _ ⟨by (repeat' (first | refine agree_upd rfl ?_ | exact agree_over | exact agree_refl _ _ | refine agree_over2 rfl ?_)), _, Ent.sub ((((List.Sublist.refl _).cons _).cons _).cons _), gA, cA, gB, cB, gC, cC, _, _, _, rfl, rfl, rfl, rfl, rfl, hx9, hy9, fun _ _ h => h⟩
          · apply OKx_slit1; (focus ((conv=>lhs;whnf)<;>exact rfl)); (focus exact rfl);intro _
            apply OKx_nilK
            refine OKd_step1 (S := [0, 1, 2, 3, 5, 6, 7, 8, 10, 11, 12, 13]) (i1 := 4) (S1 := [0, 1, 2, 3, 4, 5, 6, 7, 8, 10, 11, 12, 13]) (.inr (Ent.pick [6] rfl)) (by kernel_rfl) (by kernel_rfl) rfl ?_
            · refine OKx_append1 3 2 rfl rfl rfl rfl rfl (by omega) (by omega) ?_; intro gA cA
              apply OKx_nilK
              refine OKd_pure (S := [0, 1, 2, 3, 4, 5, 6, 7, 8, 10, 11, 12, 13]) (i := 15) (S1 := [0, 1, 2, 3, 4, 5, 6, 7, 8, 10, 11, 12, 13, 15]) (by kernel_rfl) (by kernel_rfl) (by kernel_rfl) rfl ?_
              apply OKx_fldO; (focus ((conv=>lhs;whnf)<;>exact rfl)); (focus exact rfl)
              apply OKx_nilK
              refine OKd_step1 (S := [0, 1, 2, 3, 4, 5, 6, 7, 8, 10, 11, 12, 13, 15]) (i1 := 9) (S1 := [0, 1, 2, 3, 4, 5, 6, 7, 8, 9, 10, 11, 12, 13, 15]) (.inr (Ent.pick [6] rfl)) (by kernel_rfl) (by kernel_rfl) rfl ?_
              · refine OKx_append1 4 1 rfl rfl rfl rfl rfl (by omega) (by omega) ?_; intro gB cB
                apply OKx_nilK
                refine OKd_step1 (S := [0, 1, 2, 3, 4, 5, 6, 7, 8, 9, 10, 11, 12, 13, 15]) (i1 := 14) (S1 := [0, 1, 2, 3, 4, 5, 6, 7, 8, 9, 10, 11, 12, 13, 14, 15]) (.inr (Ent.pick [6] rfl)) (by kernel_rfl) (by kernel_rfl) rfl ?_
                · refine OKx_append1 5 0 rfl rfl rfl rfl rfl (by omega) (by omega) ?_; intro gC cC
                  apply OKx_nilK
                  exact hS0 _ _ ⟨by (repeat' (first | refine agree_upd rfl ?_ | exact agree_over | exact agree_refl _ _ | refine agree_over2 rfl ?_)), _, Ent.sub ((((List.Sublist.refl _).cons _).cons _).cons _), gA, cA, gB, cB, gC, cC, _, _, _, rfl, rfl, rfl, rfl, rfl, hx9, hy9, fun _ _ h => h⟩
        · apply OKx_slit1; (focus ((conv=>lhs;whnf)<;>exact rfl)); (focus exact rfl);intro _
          apply OKx_nilK
          refine OKd_step2 (S := [0, 1, 2, 3, 5, 6, 7, 10, 11, 12, 13]) (i1 := 4) (S1 := [0, 1, 2, 3, 4, 5, 6, 7, 10, 11, 12, 13]) (i2 := 8) (S2 := [0, 1, 2, 3, 5, 6, 7, 8, 10, 11, 12, 13]) (.inr (Ent.pick [5] rfl)) (by kernel_rfl) (by kernel_rfl) (by kernel_rfl) rfl rfl ?_ ?_
          · refine OKx_append1 2 1 rfl rfl rfl rfl rfl (by omega) (by omega) ?_; intro gA cA
            apply OKx_nilK
            refine OKd_pure (S := [0, 1, 2, 3, 4, 5, 6, 7, 10, 11, 12, 13]) (i := 15) (S1 := [0, 1, 2, 3, 4, 5, 6, 7, 10, 11, 12, 13, 15]) (by kernel_rfl) (by kernel_rfl) (by kernel_rfl) rfl ?_
            apply OKx_fldO; (focus ((conv=>lhs;whnf)<;>exact rfl)); (focus exact rfl)
            apply OKx_nilK
            refine OKd_step1 (S := [0, 1, 2, 3, 4, 5, 6, 7, 10, 11, 12, 13, 15]) (i1 := 8) (S1 := [0, 1, 2, 3, 4, 5, 6, 7, 8, 10, 11, 12, 13, 15]) (.inr (Ent.pick [5] rfl)) (by kernel_rfl) (by kernel_rfl) rfl ?_
            · apply OKx_slit1; (focus ((conv=>lhs;whnf)<;>exact rfl)); (focus exact rfl);intro _
              apply OKx_nilK
              refine OKd_step1 (S := [0, 1, 2, 3, 4, 5, 6, 7, 8, 10, 11, 12, 13, 15]) (i1 := 9) (S1 := [0, 1, 2, 3, 4, 5, 6, 7, 8, 9, 10, 11, 12, 13, 15]) (.inr (Ent.pick [6] rfl)) (by kernel_rfl) (by kernel_rfl) rfl ?_
              · refine OKx_append1 4 0 rfl rfl rfl rfl rfl (by omega) (by omega) ?_; intro gB cB
                apply OKx_nilK
                refine OKd_step1 (S := [0, 1, 2, 3, 4, 5, 6, 7, 8, 9, 10, 11, 12, 13, 15]) (i1 := 14) (S1 := [0, 1, 2, 3, 4, 5, 6, 7, 8, 9, 10, 11, 12, 13, 14, 15]) (.inr (Ent.pick [6] rfl)) (by kernel_rfl) (by kernel_rfl) rfl ?_
                · refine OKx_append1 5 1 rfl rfl rfl rfl rfl (by omega) (by omega) ?_; intro gC cC
                  apply OKx_nilK
                  exact hS0 _ _ ⟨by (repeat' (first | refine agree_upd rfl ?_ | exact agree_over | exact agree_refl _ _ | refine agree_over2 rfl ?_)), _, Ent.sub ((((List.Sublist.refl _).cons _).cons _).cons _), gA, cA, gB, cB, gC, cC, _, _, _, rfl, rfl, rfl, rfl, rfl, hx9, hy9, fun _ _ h => h⟩
          · apply OKx_slit1; (focus ((conv=>lhs;whnf)<;>exact rfl)); (focus exact rfl);intro _
            apply OKx_nilK
            refine OKd_step1 (S := [0, 1, 2, 3, 5, 6, 7, 8, 10, 11, 12, 13]) (i1 := 4) (S1 := [0, 1, 2, 3, 4, 5, 6, 7, 8, 10, 11, 12, 13]) (.inr (Ent.pick [6] rfl)) (by kernel_rfl) (by kernel_rfl) rfl ?_
            · refine OKx_append1 3 2 rfl rfl rfl rfl rfl (by omega) (by omega) ?_; intro gA cA
              apply OKx_nilK
              refine OKd_pure (S := [0, 1, 2, 3, 4, 5, 6, 7, 8, 10, 11, 12, 13]) (i := 15) (S1 := [0, 1, 2, 3, 4, 5, 6, 7, 8, 10, 11, 12, 13, 15]) (by kernel_rfl) (by kernel_rfl) (by kernel_rfl) rfl ?_
              apply OKx_fldO; (focus ((conv=>lhs;whnf)<;>exact rfl)); (focus exact rfl)
              apply OKx_nilK
              refine OKd_step1 (S := [0, 1, 2, 3, 4, 5, 6, 7, 8, 10, 11, 12, 13, 15]) (i1 := 9) (S1 := [0, 1, 2, 3, 4, 5, 6, 7, 8, 9, 10, 11, 12, 13, 15]) (.inr (Ent.pick [6] rfl)) (by kernel_rfl) (by kernel_rfl) rfl ?_
              · refine OKx_append1 4 0 rfl rfl rfl rfl rfl (by omega) (by omega) ?_; intro gB cB
                apply OKx_nilK
                refine OKd_step1 (S := [0, 1, 2, 3, 4, 5, 6, 7, 8, 9, 10, 11, 12, 13, 15]) (i1 := 14) (S1 := [0, 1, 2, 3, 4, 5, 6, 7, 8, 9, 10, 11, 12, 13, 14, 15]) (.inr (Ent.pick [6] rfl)) (by kernel_rfl) (by kernel_rfl) rfl ?_
                · refine OKx_append1 5 1 rfl rfl rfl rfl rfl (by omega) (by omega) ?_; intro gC cC
                  apply OKx_nilK
                  exact hS0 _ _ ⟨by (repeat' (first | refine agree_upd rfl ?_ | exact agree_over | exact agree_refl _ _ | refine agree_over2 rfl ?_)), _, Ent.sub ((((List.Sublist.refl _).cons _).cons _).cons _), gA, cA, gB, cB, gC, cC, _, _, _, rfl, rfl, rfl, rfl, rfl, hx9, hy9, fun _ _ h => h⟩
      · apply OKx_slit1; (focus ((conv=>lhs;whnf)<;>exact rfl)); (focus exact rfl);intro _
        apply OKx_nilK
        refine OKd_step2 (S := [0, 1, 2, 5, 6, 7, 8, 10, 11, 12]) (i1 := 3) (S1 := [0, 1, 2, 3, 5, 6, 7, 8, 10, 11, 12]) (i2 := 13) (S2 := [0, 1, 2, 5, 6, 7, 8, 10, 11, 12, 13]) (.inr (Ent.pick [4] rfl)) (by kernel_rfl) (by kernel_rfl) (by kernel_rfl) rfl rfl ?_ ?_
        · apply OKx_slit1; (focus ((conv=>lhs;whnf)<;>exact rfl)); (focus exact rfl);intro _
          apply OKx_nilK
          refine OKd_step2 (S := [0, 1, 2, 3, 5, 6, 7, 8, 10, 11, 12]) (i1 := 4) (S1 := [0, 1, 2, 3, 4, 5, 6, 7, 8, 10, 11, 12]) (i2 := 13) (S2 := [0, 1, 2, 3, 5, 6, 7, 8, 10, 11, 12, 13]) (.inr (Ent.pick [5] rfl)) (by kernel_rfl) (by kernel_rfl) (by kernel_rfl) rfl rfl ?_ ?_
          · refine OKx_append1 2 0 rfl rfl rfl rfl rfl (by omega) (by omega) ?_; intro gA cA
            apply OKx_nilK
            refine OKd_pure (S := [0, 1, 2, 3, 4, 5, 6, 7, 8, 10, 11, 12]) (i := 15) (S1 := [0, 1, 2, 3, 4, 5, 6, 7, 8, 10, 11, 12, 15]) (by kernel_rfl) (by kernel_rfl) (by kernel_rfl) rfl ?_
            apply OKx_fldO; (focus ((conv=>lhs;whnf)<;>exact rfl)); (focus exact rfl)
            apply OKx_nilK
            refine OKd_step2 (S := [0, 1, 2, 3, 4, 5, 6, 7, 8, 10, 11, 12, 15]) (i1 := 9) (S1 := [0, 1, 2, 3, 4, 5, 6, 7, 8, 9, 10, 11, 12, 15]) (i2 := 13) (S2 := [0, 1, 2, 3, 4, 5, 6, 7, 8, 10, 11, 12, 13, 15]) (.inr (Ent.pick [5] rfl)) (by kernel_rfl) (by kernel_rfl) (by kernel_rfl) rfl rfl ?_ ?_
            · refine OKx_append1 3 1 rfl rfl rfl rfl rfl (by omega) (by omega) ?_; intro gB cB
              apply OKx_nilK
              refine OKd_step1 (S := [0, 1, 2, 3, 4, 5, 6, 7, 8, 9, 10, 11, 12, 15]) (i1 := 13) (S1 := [0, 1, 2, 3, 4, 5, 6, 7, 8, 9, 10, 11, 12, 13, 15]) (.inr (Ent.pick [5] rfl)) (by kernel_rfl) (by kernel_rfl) rfl ?_
              · apply OKx_slit1; (focus ((conv=>lhs;whnf)<;>exact rfl)); (focus exact rfl);intro _
                apply OKx_nilK
                refine OKd_step1 (S := [0, 1, 2, 3, 4, 5, 6, 7, 8, 9, 10, 11, 12, 13, 15]) (i1 := 14) (S1 := [0, 1, 2, 3, 4, 5, 6, 7, 8, 9, 10, 11, 12, 13, 14, 15]) (.inr (Ent.pick [6] rfl)) (by kernel_rfl) (by kernel_rfl) rfl ?_
                · refine OKx_append1 5 0 rfl rfl rfl rfl rfl (by omega) (by omega) ?_; intro gC cC
                  apply OKx_nilK
                  exact hS0 _ _ ⟨by (repeat' (first | refine agree_upd rfl ?_ | exact agree_over | exact agree_refl _ _ | refine agree_over2 rfl ?_)), _, Ent.sub ((((List.Sublist.refl _).cons _).cons _).cons _), gA, cA, gB, cB, gC, cC, _, _, _, rfl, rfl, rfl, rfl, rfl, hx9, hy9, fun _ _ h => h⟩
            · apply OKx_slit1; (focus ((conv=>lhs;whnf)<;>exact rfl)); (focus exact rfl);intro _
              apply OKx_nilK
              refine OKd_step1 (S := [0, 1, 2, 3, 4, 5, 6, 7, 8, 10, 11, 12, 13, 15]) (i1 := 9) (S1 := [0, 1, 2, 3, 4, 5, 6, 7, 8, 9, 10, 11, 12, 13, 15]) (.inr (Ent.pick [6] rfl)) (by kernel_rfl) (by kernel_rfl) rfl ?_
              · refine OKx_append1 4 2 rfl rfl rfl rfl rfl (by omega) (by omega) ?_; intro gB cB
                apply OKx_nilK
                refine OKd_step1 (S := [0, 1, 2, 3, 4, 5, 6, 7, 8, 9, 10, 11, 12, 13, 15]) (i1 := 14) (S1 := [0, 1, 2, 3, 4, 5, 6, 7, 8, 9, 10, 11, 12, 13, 14, 15]) (.inr (Ent.pick [6] rfl)) (by kernel_rfl) (by kernel_rfl) rfl ?_
                · refine OKx_append1 5 0 rfl rfl rfl rfl rfl (by omega) (by omega) ?_; intro gC cC
                  apply OKx_nilK
                  exact hS0 _ _ ⟨by (repeat' (first | refine agree_upd rfl ?_ | exact agree_over | exact agree_refl _ _ | refine agree_over2 rfl ?_)), _, Ent.sub ((((List.Sublist.refl _).cons _).cons _).cons _), gA, cA, gB, cB, gC, cC, _, _, _, rfl, rfl, rfl, rfl, rfl, hx9, hy9, fun _ _ h => h⟩
          · apply OKx_slit1; (focus ((conv=>lhs;whnf)<;>exact rfl)); (focus exact rfl);intro _
            apply OKx_nilK
            refine OKd_step1 (S := [0, 1, 2, 3, 5, 6, 7, 8, 10, 11, 12, 13]) (i1 := 4) (S1 := [0, 1, 2, 3, 4, 5, 6, 7, 8, 10, 11, 12, 13]) (.inr (Ent.pick [6] rfl)) (by kernel_rfl) (by kernel_rfl) rfl ?_
            · refine OKx_append1 3 1 rfl rfl rfl rfl rfl (by omega) (by omega) ?_; intro gA cA
              apply OKx_nilK
              refine OKd_pure (S := [0, 1, 2, 3, 4, 5, 6, 7, 8, 10, 11, 12, 13]) (i := 15) (S1 := [0, 1, 2, 3, 4, 5, 6, 7, 8, 10, 11, 12, 13, 15]) (by kernel_rfl) (by kernel_rfl) (by kernel_rfl) rfl ?_
              apply OKx_fldO; (focus ((conv=>lhs;whnf)<;>exact rfl)); (focus exact rfl)
              apply OKx_nilK
              refine OKd_step1 (S := [0, 1, 2, 3, 4, 5, 6, 7, 8, 10, 11, 12, 13, 15]) (i1 := 9) (S1 := [0, 1, 2, 3, 4, 5, 6, 7, 8, 9, 10, 11, 12, 13, 15]) (.inr (Ent.pick [6] rfl)) (by kernel_rfl) (by kernel_rfl) rfl ?_
              · refine OKx_append1 4 2 rfl rfl rfl rfl rfl (by omega) (by omega) ?_; intro gB cB
                apply OKx_nilK
                refine OKd_step1 (S := [0, 1, 2, 3, 4, 5, 6, 7, 8, 9, 10, 11, 12, 13, 15]) (i1 := 14) (S1 := [0, 1, 2, 3, 4, 5, 6, 7, 8, 9, 10, 11, 12, 13, 14, 15]) (.inr (Ent.pick [6] rfl)) (by kernel_rfl) (by kernel_rfl) rfl ?_
                · refine OKx_append1 5 0 rfl rfl rfl rfl rfl (by omega) (by omega) ?_; intro gC cC
                  apply OKx_nilK
                  exact hS0 _ _ ⟨by (repeat' (first | refine agree_upd rfl ?_ | exact agree_over | exact agree_refl _ _ | refine agree_over2 rfl ?_)), _, Ent.sub ((((List.Sublist.refl _).cons _).cons _).cons _), gA, cA, gB, cB, gC, cC, _, _, _, rfl, rfl, rfl, rfl, rfl, hx9, hy9, fun _ _ h => h⟩
        · apply OKx_slit1; (focus ((conv=>lhs;whnf)<;>exact rfl)); (focus exact rfl);intro _
          apply OKx_nilK
          refine OKd_step1 (S := [0, 1, 2, 5, 6, 7, 8, 10, 11, 12, 13]) (i1 := 3) (S1 := [0, 1, 2, 3, 5, 6, 7, 8, 10, 11, 12, 13]) (.inr (Ent.pick [5] rfl)) (by kernel_rfl) (by kernel_rfl) rfl ?_
          · apply OKx_slit1; (focus ((conv=>lhs;whnf)<;>exact rfl)); (focus exact rfl);intro _
            apply OKx_nilK
            refine OKd_step1 (S := [0, 1, 2, 3, 5, 6, 7, 8, 10, 11, 12, 13]) (i1 := 4) (S1 := [0, 1, 2, 3, 4, 5, 6, 7, 8, 10, 11, 12, 13]) (.inr (Ent.pick [6] rfl)) (by kernel_rfl) (by kernel_rfl) rfl ?_
            · refine OKx_append1 3 0 rfl rfl rfl rfl rfl (by omega) (by omega) ?_; intro gA cA
              apply OKx_nilK
              refine OKd_pure (S := [0, 1, 2, 3, 4, 5, 6, 7, 8, 10, 11, 12, 13]) (i := 15) (S1 := [0, 1, 2, 3, 4, 5, 6, 7, 8, 10, 11, 12, 13, 15]) (by kernel_rfl) (by kernel_rfl) (by kernel_rfl) rfl ?_
              apply OKx_fldO; (focus ((conv=>lhs;whnf)<;>exact rfl)); (focus exact rfl)
              apply OKx_nilK
              refine OKd_step1 (S := [0, 1, 2, 3, 4, 5, 6, 7, 8, 10, 11, 12, 13, 15]) (i1 := 9) (S1 := [0, 1, 2, 3, 4, 5, 6, 7, 8, 9, 10, 11, 12, 13, 15]) (.inr (Ent.pick [6] rfl)) (by kernel_rfl) (by kernel_rfl) rfl ?_
              · refine OKx_append1 4 2 rfl rfl rfl rfl rfl (by omega) (by omega) ?_; intro gB cB
                apply OKx_nilK
                refine OKd_step1 (S := [0, 1, 2, 3, 4, 5, 6, 7, 8, 9, 10, 11, 12, 13, 15]) (i1 := 14) (S1 := [0, 1, 2, 3, 4, 5, 6, 7, 8, 9, 10, 11, 12, 13, 14, 15]) (.inr (Ent.pick [6] rfl)) (by kernel_rfl) (by kernel_rfl) rfl ?_
                · refine OKx_append1 5 1 rfl rfl rfl rfl rfl (by omega) (by omega) ?_; intro gC cC
                  apply OKx_nilK
                  exact hS0 _ _ ⟨by (repeat' (first | refine agree_upd rfl ?_ | exact agree_over | exact agree_refl _ _ | refine agree_over2 rfl ?_)), _, Ent.sub ((((List.Sublist.refl _).cons _).cons _).cons _), gA, cA, gB, cB, gC, cC, _, _, _, rfl, rfl, rfl, rfl, rfl, hx9, hy9, fun _ _ h => h⟩
      · apply OKx_slit1; (focus ((conv=>lhs;whnf)<;>exact rfl)); (focus exact rfl);intro _
        apply OKx_nilK
        refine OKd_step2 (S := [0, 1, 2, 5, 6, 7, 10, 11, 12, 13]) (i1 := 3) (S1 := [0, 1, 2, 3, 5, 6, 7, 10, 11, 12, 13]) (i2 := 8) (S2 := [0, 1, 2, 5, 6, 7, 8, 10, 11, 12, 13]) (.inr (Ent.pick [4] rfl)) (by kernel_rfl) (by kernel_rfl) (by kernel_rfl) rfl rfl ?_ ?_
        · apply OKx_slit1; (focus ((conv=>lhs;whnf)<;>exact rfl)); (focus exact rfl);intro _
          apply OKx_nilK
          refine OKd_step2 (S := [0, 1, 2, 3, 5, 6, 7, 10, 11, 12, 13]) (i1 := 4) (S1 := [0, 1, 2, 3, 4, 5, 6, 7, 10, 11, 12, 13]) (i2 := 8) (S2 := [0, 1, 2, 3, 5, 6, 7, 8, 10, 11, 12, 13]) (.inr (Ent.pick [5] rfl)) (by kernel_rfl) (by kernel_rfl) (by kernel_rfl) rfl rfl ?_ ?_
          · refine OKx_append1 2 0 rfl rfl rfl rfl rfl (by omega) (by omega) ?_; intro gA cA
            apply OKx_nilK
            refine OKd_pure (S := [0, 1, 2, 3, 4, 5, 6, 7, 10, 11, 12, 13]) (i := 15) (S1 := [0, 1, 2, 3, 4, 5, 6, 7, 10, 11, 12, 13, 15]) (by kernel_rfl) (by kernel_rfl) (by kernel_rfl) rfl ?_
            apply OKx_fldO; (focus ((conv=>lhs;whnf)<;>exact rfl)); (focus exact rfl)
            apply OKx_nilK
            refine OKd_step1 (S := [0, 1, 2, 3, 4, 5, 6, 7, 10, 11, 12, 13, 15]) (i1 := 8) (S1 := [0, 1, 2, 3, 4, 5, 6, 7, 8, 10, 11, 12, 13, 15]) (.inr (Ent.pick [5] rfl)) (by kernel_rfl) (by kernel_rfl) rfl ?_
            · apply OKx_slit1; (focus ((conv=>lhs;whnf)<;>exact rfl)); (focus exact rfl);intro _
              apply OKx_nilK
              refine OKd_step1 (S := [0, 1, 2, 3, 4, 5, 6, 7, 8, 10, 11, 12, 13, 15]) (i1 := 9) (S1 := [0, 1, 2, 3, 4, 5, 6, 7, 8, 9, 10, 11, 12, 13, 15]) (.inr (Ent.pick [6] rfl)) (by kernel_rfl) (by kernel_rfl) rfl ?_
              · refine OKx_append1 4 0 rfl rfl rfl rfl rfl (by omega) (by omega) ?_; intro gB cB
                apply OKx_nilK
                refine OKd_step1 (S := [0, 1, 2, 3, 4, 5, 6, 7, 8, 9, 10, 11, 12, 13, 15]) (i1 := 14) (S1 := [0, 1, 2, 3, 4, 5, 6, 7, 8, 9, 10, 11, 12, 13, 14, 15]) (.inr (Ent.pick [6] rfl)) (by kernel_rfl) (by kernel_rfl) rfl ?_
                · refine OKx_append1 5 2 rfl rfl rfl rfl rfl (by omega) (by omega) ?_; intro gC cC
                  apply OKx_nilK
                  exact hS0 _ _ ⟨by (repeat' (first | refine agree_upd rfl ?_ | exact agree_over | exact agree_refl _ _ | refine agree_over2 rfl ?_)), _, Ent.sub ((((List.Sublist.refl _).cons _).cons _).cons _), gA, cA, gB, cB, gC, cC, _, _, _, rfl, rfl, rfl, rfl, rfl, hx9, hy9, fun _ _ h => h⟩
          · apply OKx_slit1; (focus ((conv=>lhs;whnf)<;>exact rfl)); (focus exact rfl);intro _
            apply OKx_nilK
            refine OKd_step1 (S := [0, 1, 2, 3, 5, 6, 7, 8, 10, 11, 12, 13]) (i1 := 4) (S1 := [0, 1, 2, 3, 4, 5, 6, 7, 8, 10, 11, 12, 13]) (.inr (Ent.pick [6] rfl)) (by kernel_rfl) (by kernel_rfl) rfl ?_
            · refine OKx_append1 3 1 rfl rfl rfl rfl rfl (by omega) (by omega) ?_; intro gA cA
              apply OKx_nilK
              refine OKd_pure (S := [0, 1, 2, 3, 4, 5, 6, 7, 8, 10, 11, 12, 13]) (i := 15) (S1 := [0, 1, 2, 3, 4, 5, 6, 7, 8, 10, 11, 12, 13, 15]) (by kernel_rfl) (by kernel_rfl) (by kernel_rfl) rfl ?_
              apply OKx_fldO; (focus ((conv=>lhs;whnf)<;>exact rfl)); (focus exact rfl)
              apply OKx_nilK
              refine OKd_step1 (S := [0, 1, 2, 3, 4, 5, 6, 7, 8, 10, 11, 12, 13, 15]) (i1 := 9) (S1 := [0, 1, 2, 3, 4, 5, 6, 7, 8, 9, 10, 11, 12, 13, 15]) (.inr (Ent.pick [6] rfl)) (by kernel_rfl) (by kernel_rfl) rfl ?_
              · refine OKx_append1 4 0 rfl rfl rfl rfl rfl (by omega) (by omega) ?_; intro gB cB
                apply OKx_nilK
                refine OKd_step1 (S := [0, 1, 2, 3, 4, 5, 6, 7, 8, 9, 10, 11, 12, 13, 15]) (i1 := 14) (S1 := [0, 1, 2, 3, 4, 5, 6, 7, 8, 9, 10, 11, 12, 13, 14, 15]) (.inr (Ent.pick [6] rfl)) (by kernel_rfl) (by kernel_rfl) rfl ?_
                · refine OKx_append1 5 2 rfl rfl rfl rfl rfl (by omega) (by omega) ?_; intro gC cC
                  apply OKx_nilK
                  exact hS0 _ _ ⟨by (repeat' (first | refine agree_upd rfl ?_ | exact agree_over | exact agree_refl _ _ | refine agree_over2 rfl ?_)), _, Ent.sub ((((List.Sublist.refl _).cons _).cons _).cons _), gA, cA, gB, cB, gC, cC, _, _, _, rfl, rfl, rfl, rfl, rfl, hx9, hy9, fun _ _ h => h⟩
        · apply OKx_slit1; (focus ((conv=>lhs;whnf)<;>exact rfl)); (focus exact rfl);intro _
          apply OKx_nilK
          refine OKd_step1 (S := [0, 1, 2, 5, 6, 7, 8, 10, 11, 12, 13]) (i1 := 3) (S1 := [0, 1, 2, 3, 5, 6, 7, 8, 10, 11, 12, 13]) (.inr (Ent.pick [5] rfl)) (by kernel_rfl) (by kernel_rfl) rfl ?_
          · apply OKx_slit1; (focus ((conv=>lhs;whnf)<;>exact rfl)); (focus exact rfl);intro _
            apply OKx_nilK
            refine OKd_step1 (S := [0, 1, 2, 3, 5, 6, 7, 8, 10, 11, 12, 13]) (i1 := 4) (S1 := [0, 1, 2, 3, 4, 5, 6, 7, 8, 10, 11, 12, 13]) (.inr (Ent.pick [6] rfl)) (by kernel_rfl) (by kernel_rfl) rfl ?_
            · refine OKx_append1 3 0 rfl rfl rfl rfl rfl (by omega) (by omega) ?_; intro gA cA
              apply OKx_nilK
              refine OKd_pure (S := [0, 1, 2, 3, 4, 5, 6, 7, 8, 10, 11, 12, 13]) (i := 15) (S1 := [0, 1, 2, 3, 4, 5, 6, 7, 8, 10, 11, 12, 13, 15]) (by kernel_rfl) (by kernel_rfl) (by kernel_rfl) rfl ?_
              apply OKx_fldO; (focus ((conv=>lhs;whnf)<;>exact rfl)); (focus exact rfl)
              apply OKx_nilK
              refine OKd_step1 (S := [0, 1, 2, 3, 4, 5, 6, 7, 8, 10, 11, 12, 13, 15]) (i1 := 9) (S1 := [0, 1, 2, 3, 4, 5, 6, 7, 8, 9, 10, 11, 12, 13, 15]) (.inr (Ent.pick [6] rfl)) (by kernel_rfl) (by kernel_rfl) rfl ?_
              · refine OKx_append1 4 1 rfl rfl rfl rfl rfl (by omega) (by omega) ?_; intro gB cB
                apply OKx_nilK
                refine OKd_step1 (S := [0, 1, 2, 3, 4, 5, 6, 7, 8, 9, 10, 11, 12, 13, 15]) (i1 := 14) (S1 := [0, 1, 2, 3, 4, 5, 6, 7, 8, 9, 10, 11, 12, 13, 14, 15]) (.inr (Ent.pick [6] rfl)) (by kernel_rfl) (by kernel_rfl) rfl ?_
                · refine OKx_append1 5 2 rfl rfl rfl rfl rfl (by omega) (by omega) ?_; intro gC cC
                  apply OKx_nilK
                  exact hS0 _ _ ⟨by (repeat' (first | refine agree_upd rfl ?_ | exact agree_over | exact agree_refl _ _ | refine agree_over2 rfl ?_)), _, Ent.sub ((((List.Sublist.refl _).cons _).cons _).cons _), gA, cA, gB, cB, gC, cC, _, _, _, rfl, rfl, rfl, rfl, rfl, hx9, hy9, fun _ _ h => h⟩
  · skip
    rw [if_pos he] at hw
    have hx9 := hxx false (decide_eq_false (fun h => h he)).symm
    repeat' (first|(apply OK_seq)|(apply thenQ_n)|(apply OK_region)|(apply OKx_gn; apply OKx_sneq;exact rfl;exact rfl; all_goals (intro hs9; first | (exfalso; exact hs9 he) | skip))|(apply OKx_gc 25;exact rfl; refine OKx_callV (f := 25) rfl rfl rfl (fun w1 hp => hit w1) ?_)|(apply OKx_gn; refine OKx_sadd rfl rfl (by rw [hbz]; show 1 + _ ≤ _;omega) ?_; rw [itS_app, ← hw])|(apply OKx_nilK)|(apply OK_block)|(apply blockQ_n)|(apply blockQ_s)|(apply thenQ_e)|(apply blockQ_e;exact rfl)|(apply thenQ_r)|(apply blockQ_r)|(apply OK_condT;exact rfl)|(apply OK_condF;exact rfl)|(apply OK_skip)|(apply OK_exit)|(apply OK_ret)|(apply OKx_move;(conv=>lhs;whnf)<;>exact rfl)|(apply OKx_assign;(conv=>lhs;whnf)<;>exact rfl)|(apply OKx_ldB;exact rfl;(first | exact at0|exact at1|exact at2|exact at3|exact at4|exact at5|exact at6|exact at7);exact rfl)|(apply OKx_ldR;(conv=>lhs;whnf)<;>exact rfl;(with_reducible assumption))|(apply OKx_ldI;exact rfl;(first | exact at0|exact at1|exact at2|exact at3|exact at4|exact at5|exact at6|exact at7);omega)|(apply OKx_len;exact rfl)|(apply OKx_lenR;(conv=>lhs;whnf)<;>exact rfl;(with_reducible assumption))|(apply OKx_lenR2;(conv=>lhs;whnf)<;>exact rfl;(with_reducible assumption))|(apply OKx_lenO;(conv=>lhs;whnf)<;>exact rfl;(first | exact at0|exact at1|exact at2|exact at3|exact at4|exact at5|exact at6|exact at7))|(apply OKx_lss;exact rfl;exact rfl;all_goals (intro _; try (exfalso;omega)))|(apply OKx_gtr;exact rfl;exact rfl;all_goals (intro _; try (exfalso;omega)))|(apply OKx_neq;exact rfl;exact rfl;all_goals (intro _; try (exfalso;omega)))|(apply OKx_sneq;exact rfl;exact rfl; all_goals intro _)|(apply OKx_idxO;exact rfl;exact rfl;omega)|(apply OKx_idxR;(conv=>lhs;whnf)<;>exact rfl;(with_reducible assumption);exact rfl;omega;intro _ _)|(apply OKx_idxOz;exact rfl;exact rfl;omega;omega)|(apply OKx_idxRz;(conv=>lhs;whnf)<;>exact rfl;(with_reducible assumption);exact rfl;omega;omega;intro _ _)|(apply OKx_fldO;exact rfl;exact rfl)|(apply OKx_fldR;(conv=>lhs;whnf)<;>exact rfl;(with_reducible assumption); decide;intro _ _)|(apply OKx_inc;exact rfl;exact rfl;omega)|(apply OKx_addN;exact rfl;exact rfl;omega)|(apply OKx_add;exact rfl;exact rfl;omega;omega)|(apply OKx_notT;exact rfl)|(apply OKx_notF;exact rfl)|(apply OKx_boxA;exact rfl;intro _)|(apply OKx_allocA;intro _)|(apply OKx_ldBA;exact rfl;(first | exact at0|exact at1|exact at2|exact at3|exact at4|exact at5|exact at6|exact at7);exact rfl)|(apply OKx_ldRA;(conv=>lhs;whnf)<;>exact rfl;(with_reducible assumption))|(apply OKx_stB;exact rfl;(conv=>lhs;whnf)<;>exact rfl;exact rfl;exact rfl;(first | exact at0|exact at1|exact at2|exact at3|exact at4|exact at5|exact at6|exact at7);exact rfl;exact rfl;exact rfl)|(apply OKx_slit1;(conv=>lhs;whnf)<;>exact rfl;exact rfl;intro _)|(apply OKx_stBA; kernel_rfl;exact rfl;exact rfl;exact rfl;(first | exact at0|exact at1|exact at2|exact at3|exact at4|exact at5|exact at6|exact at7);exact rfl;exact rfl;exact rfl)|(refine OKa_end (S := []) (by kernel_rfl) ?_))
    rename_i gp
    have hy9 : ∀ w0 w1, Hp w0.heap.size w0 w1 (.row 3 1 (.slice (some ⟨gp, 0, none⟩) 1 1) 1 (ints [t.par.getD k 0]) :: Z) → Ints w1 (.slice (some ⟨gp, 0, none⟩) 1 1) (if k = 0 then [] else [t.par.getD k 0]) := fun w0 w1 hp => by rw [if_neg hk0]; exact hp.ints 0 rfl (by omega)
    refine OK_ent (L' := _ :: _ :: _ :: _ :: _ :: _ :: .row 3 1 (.slice (some ⟨gp, 0, none⟩) 1 1) 1 (ints [t.par.getD k 0]) :: Z) (Ent.perm (List.perm_middle (l₁ := [_, _, _, _, _, _])).symm) ?_
    refine OK_pureAnz4 21 12 5 16 [0, 1, 2, 5, 6, 7, 10, 11, 12] [.box 26 go [.slice na k nc, .slice ea k ec, .slice pa k pc]] [0, 1, 2, 3, 4, 5, 6, 7, 8, 9, 10, 11, 12, 13, 14, 15] [38, 39, 40, 41, 42, 43, 44, 45, 46, 47, 48, 49, 50, 51, 52, 53, 54, 55] 42 47 52 53
      (fun v1 v2 v3 v4 L => ∃ (gA cA gB cB gC cC : Nat) (x y : Value) (Z2 : List Res), v1 = .slice (some ⟨gA, 0, none⟩) (k + 1) cA ∧ v2 = .slice (some ⟨gB, 0, none⟩) (k + 1) cB ∧ v3 = .slice (some ⟨gC, 0, none⟩) (k + 1) cC ∧ v4 = .pointer (some ⟨go, 0, none⟩) ∧
        L = .row 9 1 (.slice (some ⟨gA, 0, none⟩) (k + 1) cA) (k + 1) (strs (ftN t k) ++ [.string (treW t k)]) :: .row 4 1 (.slice (some ⟨gB, 0, none⟩) (k + 1) cB) (k + 1) (bools (ftX t k) ++ [x]) :: .row 27 1 (.slice (some ⟨gC, 0, none⟩) (k + 1) cC) (k + 1) (vs ++ [y]) :: .box 26 go [.slice na k nc, .slice ea k ec, .slice pa k pc] :: .box 26 gr [.slice none 0 0, .slice none 0 0, .slice none 0 0] :: .box 41 gt [pv, nv] :: Z2 ∧
        x = .bool (decide (t.names.getD k ByteArray.empty ≠ ByteArray.empty)) ∧ (∀ w0 w1, Hp w0.heap.size w0 w1 Z2 → Ints w1 y (if k = 0 then [] else [t.par.getD k 0])) ∧ (∀ w0 w1, Hp w0.heap.size w0 w1 Z2 → Hp w0.heap.size w0 w1 Z))
      (id := 13) (by kernel_rfl) (by kernel_rfl) (by kernel_rfl) (by kernel_rfl) (by kernel_rfl) (by kernel_rfl) (Ent.pick [3] rfl) (by ((try simp only [pickO, nthO, List.cons_append, List.nil_append, List.append_nil]) <;> exact rfl)) (by kernel_rfl) ?_ ?_
    · rintro v1 v2 v3 v4 L1 G9 ⟨gA, cA, gB, cB, gC, cC, x, y, Z2, rfl, rfl, rfl, rfl, rfl, rfl, hy, hz2⟩
      repeat' (first|(apply OK_seq)|(apply thenQ_n)|(apply OK_region)|(refine OKd_step1 (S := [0, 1, 2, 3, 4, 5, 6, 7, 8, 9, 10, 11, 12, 13, 14, 15]) (i1 := 16) (S1 := [0, 1, 2, 3, 4, 5, 6, 7, 8, 9, 10, 11, 12, 13, 14, 15, 16]) (.inr (Ent.pick [3] rfl)) (by kernel_rfl) (by kernel_rfl) rfl ?_)|(refine OKd_step1 (S := [0, 1, 2, 3, 4, 5, 6, 7, 8, 9, 10, 11, 12, 13, 14, 15, 16]) (i1 := 17) (S1 := [0, 1, 2, 3, 4, 5, 6, 7, 8, 9, 10, 11, 12, 13, 14, 15, 16, 17]) (.inl (by kernel_rfl)) (by kernel_rfl) (by kernel_rfl) rfl ?_)|(refine OKd_step1 (S := [0, 1, 2, 3, 4, 5, 6, 7, 8, 9, 10, 11, 12, 13, 14, 15, 16, 17]) (i1 := 18) (S1 := [0, 1, 2, 3, 4, 5, 6, 7, 8, 9, 10, 11, 12, 13, 14, 15, 16, 17, 18]) (.inl (by kernel_rfl)) (by kernel_rfl) (by kernel_rfl) rfl ?_)|(refine OKd_step1 (S := [0, 1, 2, 3, 4, 5, 6, 7, 8, 9, 10, 11, 12, 13, 14, 15, 16, 17, 18]) (i1 := 19) (S1 := [0, 1, 2, 3, 4, 5, 6, 7, 8, 9, 10, 11, 12, 13, 14, 15, 16, 17, 18, 19]) (.inl (by kernel_rfl)) (by kernel_rfl) (by kernel_rfl) rfl ?_)|(refine OKd_step1 (S := [0, 1, 2, 3, 4, 5, 6, 7, 8, 9, 10, 11, 12, 13, 14, 15, 16, 17, 18, 19]) (i1 := 20) (S1 := [0, 1, 2, 3, 4, 5, 6, 7, 8, 9, 10, 11, 12, 13, 14, 15, 16, 17, 18, 19, 20]) (.inl (by kernel_rfl)) (by kernel_rfl) (by kernel_rfl) rfl ?_)|(refine OKd_end (S := [0, 1, 2, 3, 4, 5, 6, 7, 8, 9, 10, 11, 12, 13, 14, 15, 16, 17, 18, 19, 20]) (by kernel_rfl) (.inl (by kernel_rfl)) ?_)|(refine OK_rid 13 ?_; refine OK_mix [0, 1, 5, 6, 7, 10, 11, 12] [2] [] [3, 4, 8, 9, 13, 14, 15, 16, 17, 18, 19, 20] [] (id := 13) (by kernel_rfl) (by kernel_rfl) rfl (Ent.nil) (by ((try simp only [pickO, nthO, List.cons_append, List.nil_append]) <;> exact rfl)) (by ((try simp only [pickO, nthO, List.cons_append, List.nil_append]) <;> exact rfl)) (by ((try simp only [pickO]) <;> exact rfl)) (by ((try simp only [pickO, nthO, List.cons_append, List.nil_append]) <;> exact rfl)) ?_)|(apply OKx_nilK)|(apply OK_block)|(apply blockQ_n)|(apply blockQ_s)|(apply thenQ_e)|(apply blockQ_e;exact rfl)|(apply thenQ_r)|(apply blockQ_r)|(apply OK_condT;exact rfl)|(apply OK_condF;exact rfl)|(apply OK_skip)|(apply OK_exit)|(apply OK_ret)|(apply OKx_move;(conv=>lhs;whnf)<;>exact rfl)|(apply OKx_assign;(conv=>lhs;whnf)<;>exact rfl)|(apply OKx_ldB;exact rfl;(first | exact at0|exact at1|exact at2|exact at3|exact at4|exact at5|exact at6|exact at7);exact rfl)|(apply OKx_ldR;(conv=>lhs;whnf)<;>exact rfl;(with_reducible assumption))|(apply OKx_ldI;exact rfl;(first | exact at0|exact at1|exact at2|exact at3|exact at4|exact at5|exact at6|exact at7);omega)|(apply OKx_len;exact rfl)|(apply OKx_lenR;(conv=>lhs;whnf)<;>exact rfl;(with_reducible assumption))|(apply OKx_lenR2;(conv=>lhs;whnf)<;>exact rfl;(with_reducible assumption))|(apply OKx_lenO;(conv=>lhs;whnf)<;>exact rfl;(first | exact at0|exact at1|exact at2|exact at3|exact at4|exact at5|exact at6|exact at7))|(apply OKx_lss;exact rfl;exact rfl;all_goals (intro _; try (exfalso;omega)))|(apply OKx_gtr;exact rfl;exact rfl;all_goals (intro _; try (exfalso;omega)))|(apply OKx_neq;exact rfl;exact rfl;all_goals (intro _; try (exfalso;omega)))|(apply OKx_sneq;exact rfl;exact rfl; all_goals intro _)|(apply OKx_idxO;exact rfl;exact rfl;omega)|(apply OKx_idxR;(conv=>lhs;whnf)<;>exact rfl;(with_reducible assumption);exact rfl;omega;intro _ _)|(apply OKx_idxOz;exact rfl;exact rfl;omega;omega)|(apply OKx_idxRz;(conv=>lhs;whnf)<;>exact rfl;(with_reducible assumption);exact rfl;omega;omega;intro _ _)|(apply OKx_fldO;exact rfl;exact rfl)|(apply OKx_fldR;(conv=>lhs;whnf)<;>exact rfl;(with_reducible assumption); decide;intro _ _)|(apply OKx_inc;exact rfl;exact rfl;omega)|(apply OKx_addN;exact rfl;exact rfl;omega)|(apply OKx_add;exact rfl;exact rfl;omega;omega)|(apply OKx_notT;exact rfl)|(apply OKx_notF;exact rfl)|(apply OKx_boxA;exact rfl;intro _)|(apply OKx_allocA;intro _)|(apply OKx_ldBA;exact rfl;(first | exact at0|exact at1|exact at2|exact at3|exact at4|exact at5|exact at6|exact at7);exact rfl)|(apply OKx_ldRA;(conv=>lhs;whnf)<;>exact rfl;(with_reducible assumption))|(apply OKx_stB;exact rfl;(conv=>lhs;whnf)<;>exact rfl;exact rfl;exact rfl;(first | exact at0|exact at1|exact at2|exact at3|exact at4|exact at5|exact at6|exact at7);exact rfl;exact rfl;exact rfl)|(apply OKx_slit1;(conv=>lhs;whnf)<;>exact rfl;exact rfl;intro _)|(apply OKx_stBA; kernel_rfl;exact rfl;exact rfl;exact rfl;(first | exact at0|exact at1|exact at2|exact at3|exact at4|exact at5|exact at6|exact at7);exact rfl;exact rfl;exact rfl))
      refine ⟨by (repeat' (first | refine agree_upd rfl ?_ | exact agree_over | exact agree_refl _ _ | refine agree_over2 rfl ?_)), m - 1, _, by omega, Ent.refl _ _, ?_⟩
      exact ft_next t go gr gt pv nv k m gA cA gB cB gC cC vs Z Z2 y hm hk hvl hZ hy hz2
    · intro hS0
      repeat' (first|(apply OK_seq)|(apply thenQ_n)|(apply OK_region)|(refine OK_rid 13 ?_; refine OK_mix [0, 1, 5, 6, 7, 10, 11, 12] [2] [] [3, 4, 8, 9, 13, 14, 15, 16, 17, 18, 19, 20] [] (id := 13) (by kernel_rfl) (by kernel_rfl) rfl (Ent.nil) (by ((try simp only [pickO, nthO, List.cons_append, List.nil_append]) <;> exact rfl)) (by ((try simp only [pickO, nthO, List.cons_append, List.nil_append]) <;> exact rfl)) (by ((try simp only [pickO]) <;> exact rfl)) (by ((try simp only [pickO, nthO, List.cons_append, List.nil_append]) <;> exact rfl)) ?_)|(apply OKx_nilK)|(apply OK_block)|(apply blockQ_n)|(apply blockQ_s)|(apply thenQ_e)|(apply blockQ_e;exact rfl)|(apply thenQ_r)|(apply blockQ_r)|(apply OK_condT;exact rfl)|(apply OK_condF;exact rfl)|(apply OK_skip)|(apply OK_exit)|(apply OK_ret)|(apply OKx_move;(conv=>lhs;whnf)<;>exact rfl)|(apply OKx_assign;(conv=>lhs;whnf)<;>exact rfl)|(apply OKx_ldB;exact rfl;(first | exact at0|exact at1|exact at2|exact at3|exact at4|exact at5|exact at6|exact at7);exact rfl)|(apply OKx_ldR;(conv=>lhs;whnf)<;>exact rfl;(with_reducible assumption))|(apply OKx_ldI;exact rfl;(first | exact at0|exact at1|exact at2|exact at3|exact at4|exact at5|exact at6|exact at7);omega)|(apply OKx_len;exact rfl)|(apply OKx_lenR;(conv=>lhs;whnf)<;>exact rfl;(with_reducible assumption))|(apply OKx_lenR2;(conv=>lhs;whnf)<;>exact rfl;(with_reducible assumption))|(apply OKx_lenO;(conv=>lhs;whnf)<;>exact rfl;(first | exact at0|exact at1|exact at2|exact at3|exact at4|exact at5|exact at6|exact at7))|(apply OKx_lss;exact rfl;exact rfl;all_goals (intro _; try (exfalso;omega)))|(apply OKx_gtr;exact rfl;exact rfl;all_goals (intro _; try (exfalso;omega)))|(apply OKx_neq;exact rfl;exact rfl;all_goals (intro _; try (exfalso;omega)))|(apply OKx_sneq;exact rfl;exact rfl; all_goals intro _)|(apply OKx_idxO;exact rfl;exact rfl;omega)|(apply OKx_idxR;(conv=>lhs;whnf)<;>exact rfl;(with_reducible assumption);exact rfl;omega;intro _ _)|(apply OKx_idxOz;exact rfl;exact rfl;omega;omega)|(apply OKx_idxRz;(conv=>lhs;whnf)<;>exact rfl;(with_reducible assumption);exact rfl;omega;omega;intro _ _)|(apply OKx_fldO;exact rfl;exact rfl)|(apply OKx_fldR;(conv=>lhs;whnf)<;>exact rfl;(with_reducible assumption); decide;intro _ _)|(apply OKx_inc;exact rfl;exact rfl;omega)|(apply OKx_addN;exact rfl;exact rfl;omega)|(apply OKx_add;exact rfl;exact rfl;omega;omega)|(apply OKx_notT;exact rfl)|(apply OKx_notF;exact rfl)|(apply OKx_boxA;exact rfl;intro _)|(apply OKx_allocA;intro _)|(apply OKx_ldBA;exact rfl;(first | exact at0|exact at1|exact at2|exact at3|exact at4|exact at5|exact at6|exact at7);exact rfl)|(apply OKx_ldRA;(conv=>lhs;whnf)<;>exact rfl;(with_reducible assumption))|(apply OKx_stB;exact rfl;(conv=>lhs;whnf)<;>exact rfl;exact rfl;exact rfl;(first | exact at0|exact at1|exact at2|exact at3|exact at4|exact at5|exact at6|exact at7);exact rfl;exact rfl;exact rfl)|(apply OKx_slit1;(conv=>lhs;whnf)<;>exact rfl;exact rfl;intro _)|(apply OKx_stBA; kernel_rfl;exact rfl;exact rfl;exact rfl;(first | exact at0|exact at1|exact at2|exact at3|exact at4|exact at5|exact at6|exact at7);exact rfl;exact rfl;exact rfl))
      refine OKd_step3 (S := [0, 1, 2, 5, 6, 7, 10, 11, 12]) (i1 := 3) (S1 := [0, 1, 2, 3, 5, 6, 7, 10, 11, 12]) (i2 := 8) (S2 := [0, 1, 2, 5, 6, 7, 8, 10, 11, 12]) (i3 := 13) (S3 := [0, 1, 2, 5, 6, 7, 10, 11, 12, 13]) (.inr (Ent.pick [3] rfl)) (by kernel_rfl) (by kernel_rfl) (by kernel_rfl) (by kernel_rfl) rfl rfl rfl ?_ ?_ ?_
      · apply OKx_slit1; (focus ((conv=>lhs;whnf)<;>exact rfl)); (focus exact rfl);intro _
        apply OKx_nilK
        refine OKd_step3 (S := [0, 1, 2, 3, 5, 6, 7, 10, 11, 12]) (i1 := 4) (S1 := [0, 1, 2, 3, 4, 5, 6, 7, 10, 11, 12]) (i2 := 8) (S2 := [0, 1, 2, 3, 5, 6, 7, 8, 10, 11, 12]) (i3 := 13) (S3 := [0, 1, 2, 3, 5, 6, 7, 10, 11, 12, 13]) (.inr (Ent.pick [4] rfl)) (by kernel_rfl) (by kernel_rfl) (by kernel_rfl) (by kernel_rfl) rfl rfl rfl ?_ ?_ ?_
        · refine OKx_append1 1 0 rfl rfl rfl rfl rfl (by omega) (by omega) ?_; intro gA cA
          apply OKx_nilK
          refine OKd_pure (S := [0, 1, 2, 3, 4, 5, 6, 7, 10, 11, 12]) (i := 15) (S1 := [0, 1, 2, 3, 4, 5, 6, 7, 10, 11, 12, 15]) (by kernel_rfl) (by kernel_rfl) (by kernel_rfl) rfl ?_
          apply OKx_fldO; (focus ((conv=>lhs;whnf)<;>exact rfl)); (focus exact rfl)
          apply OKx_nilK
          refine OKd_step2 (S := [0, 1, 2, 3, 4, 5, 6, 7, 10, 11, 12, 15]) (i1 := 8) (S1 := [0, 1, 2, 3, 4, 5, 6, 7, 8, 10, 11, 12, 15]) (i2 := 13) (S2 := [0, 1, 2, 3, 4, 5, 6, 7, 10, 11, 12, 13, 15]) (.inr (Ent.pick [4] rfl)) (by kernel_rfl) (by kernel_rfl) (by kernel_rfl) rfl rfl ?_ ?_
          · apply OKx_slit1; (focus ((conv=>lhs;whnf)<;>exact rfl)); (focus exact rfl);intro _
            apply OKx_nilK
            refine OKd_step2 (S := [0, 1, 2, 3, 4, 5, 6, 7, 8, 10, 11, 12, 15]) (i1 := 9) (S1 := [0, 1, 2, 3, 4, 5, 6, 7, 8, 9, 10, 11, 12, 15]) (i2 := 13) (S2 := [0, 1, 2, 3, 4, 5, 6, 7, 8, 10, 11, 12, 13, 15]) (.inr (Ent.pick [5] rfl)) (by kernel_rfl) (by kernel_rfl) (by kernel_rfl) rfl rfl ?_ ?_
            · refine OKx_append1 3 0 rfl rfl rfl rfl rfl (by omega) (by omega) ?_; intro gB cB
              apply OKx_nilK
              refine OKd_step1 (S := [0, 1, 2, 3, 4, 5, 6, 7, 8, 9, 10, 11, 12, 15]) (i1 := 13) (S1 := [0, 1, 2, 3, 4, 5, 6, 7, 8, 9, 10, 11, 12, 13, 15]) (.inr (Ent.pick [5] rfl)) (by kernel_rfl) (by kernel_rfl) rfl ?_
              · apply OKx_slit1; (focus ((conv=>lhs;whnf)<;>exact rfl)); (focus exact rfl);intro _
                apply OKx_nilK
                refine OKd_step1 (S := [0, 1, 2, 3, 4, 5, 6, 7, 8, 9, 10, 11, 12, 13, 15]) (i1 := 14) (S1 := [0, 1, 2, 3, 4, 5, 6, 7, 8, 9, 10, 11, 12, 13, 14, 15]) (.inr (Ent.pick [6] rfl)) (by kernel_rfl) (by kernel_rfl) rfl ?_
                · refine OKx_append1 5 0 rfl rfl rfl rfl rfl (by omega) (by omega) ?_; intro gC cC
                  apply OKx_nilK
                  exact hS0 _ _ ⟨by (repeat' (first | refine agree_upd rfl ?_ | exact agree_over | exact agree_refl _ _ | refine agree_over2 rfl ?_)), _, Ent.sub ((((List.Sublist.refl _).cons _).cons _).cons _), gA, cA, gB, cB, gC, cC, _, _, _, rfl, rfl, rfl, rfl, rfl, hx9, hy9, fun _ _ h => h.drop1⟩
            · apply OKx_slit1; (focus ((conv=>lhs;whnf)<;>exact rfl)); (focus exact rfl);intro _
              apply OKx_nilK
              refine OKd_step1 (S := [0, 1, 2, 3, 4, 5, 6, 7, 8, 10, 11, 12, 13, 15]) (i1 := 9) (S1 := [0, 1, 2, 3, 4, 5, 6, 7, 8, 9, 10, 11, 12, 13, 15]) (.inr (Ent.pick [6] rfl)) (by kernel_rfl) (by kernel_rfl) rfl ?_
              · refine OKx_append1 4 1 rfl rfl rfl rfl rfl (by omega) (by omega) ?_; intro gB cB
                apply OKx_nilK
                refine OKd_step1 (S := [0, 1, 2, 3, 4, 5, 6, 7, 8, 9, 10, 11, 12, 13, 15]) (i1 := 14) (S1 := [0, 1, 2, 3, 4, 5, 6, 7, 8, 9, 10, 11, 12, 13, 14, 15]) (.inr (Ent.pick [6] rfl)) (by kernel_rfl) (by kernel_rfl) rfl ?_
                · refine OKx_append1 5 0 rfl rfl rfl rfl rfl (by omega) (by omega) ?_; intro gC cC
                  apply OKx_nilK
                  exact hS0 _ _ ⟨by (repeat' (first | refine agree_upd rfl ?_ | exact agree_over | exact agree_refl _ _ | refine agree_over2 rfl ?_)), _, Ent.sub ((((List.Sublist.refl _).cons _).cons _).cons _), gA, cA, gB, cB, gC, cC, _, _, _, rfl, rfl, rfl, rfl, rfl, hx9, hy9, fun _ _ h => h.drop1⟩
          · apply OKx_slit1; (focus ((conv=>lhs;whnf)<;>exact rfl)); (focus exact rfl);intro _
            apply OKx_nilK
            refine OKd_step1 (S := [0, 1, 2, 3, 4, 5, 6, 7, 10, 11, 12, 13, 15]) (i1 := 8) (S1 := [0, 1, 2, 3, 4, 5, 6, 7, 8, 10, 11, 12, 13, 15]) (.inr (Ent.pick [5] rfl)) (by kernel_rfl) (by kernel_rfl) rfl ?_
            · apply OKx_slit1; (focus ((conv=>lhs;whnf)<;>exact rfl)); (focus exact rfl);intro _
              apply OKx_nilK
              refine OKd_step1 (S := [0, 1, 2, 3, 4, 5, 6, 7, 8, 10, 11, 12, 13, 15]) (i1 := 9) (S1 := [0, 1, 2, 3, 4, 5, 6, 7, 8, 9, 10, 11, 12, 13, 15]) (.inr (Ent.pick [6] rfl)) (by kernel_rfl) (by kernel_rfl) rfl ?_
              · refine OKx_append1 4 0 rfl rfl rfl rfl rfl (by omega) (by omega) ?_; intro gB cB
                apply OKx_nilK
                refine OKd_step1 (S := [0, 1, 2, 3, 4, 5, 6, 7, 8, 9, 10, 11, 12, 13, 15]) (i1 := 14) (S1 := [0, 1, 2, 3, 4, 5, 6, 7, 8, 9, 10, 11, 12, 13, 14, 15]) (.inr (Ent.pick [6] rfl)) (by kernel_rfl) (by kernel_rfl) rfl ?_
                · refine OKx_append1 5 1 rfl rfl rfl rfl rfl (by omega) (by omega) ?_; intro gC cC
                  apply OKx_nilK
                  exact hS0 _ _ ⟨by (repeat' (first | refine agree_upd rfl ?_ | exact agree_over | exact agree_refl _ _ | refine agree_over2 rfl ?_)), _, Ent.sub ((((List.Sublist.refl _).cons _).cons _).cons _), gA, cA, gB, cB, gC, cC, _, _, _, rfl, rfl, rfl, rfl, rfl, hx9, hy9, fun _ _ h => h.drop1⟩
        · apply OKx_slit1; (focus ((conv=>lhs;whnf)<;>exact rfl)); (focus exact rfl);intro _
          apply OKx_nilK
          refine OKd_step2 (S := [0, 1, 2, 3, 5, 6, 7, 8, 10, 11, 12]) (i1 := 4) (S1 := [0, 1, 2, 3, 4, 5, 6, 7, 8, 10, 11, 12]) (i2 := 13) (S2 := [0, 1, 2, 3, 5, 6, 7, 8, 10, 11, 12, 13]) (.inr (Ent.pick [5] rfl)) (by kernel_rfl) (by kernel_rfl) (by kernel_rfl) rfl rfl ?_ ?_
          · refine OKx_append1 2 1 rfl rfl rfl rfl rfl (by omega) (by omega) ?_; intro gA cA
            apply OKx_nilK
            refine OKd_pure (S := [0, 1, 2, 3, 4, 5, 6, 7, 8, 10, 11, 12]) (i := 15) (S1 := [0, 1, 2, 3, 4, 5, 6, 7, 8, 10, 11, 12, 15]) (by kernel_rfl) (by kernel_rfl) (by kernel_rfl) rfl ?_
            apply OKx_fldO; (focus ((conv=>lhs;whnf)<;>exact rfl)); (focus exact rfl)
            apply OKx_nilK
            refine OKd_step2 (S := [0, 1, 2, 3, 4, 5, 6, 7, 8, 10, 11, 12, 15]) (i1 := 9) (S1 := [0, 1, 2, 3, 4, 5, 6, 7, 8, 9, 10, 11, 12, 15]) (i2 := 13) (S2 := [0, 1, 2, 3, 4, 5, 6, 7, 8, 10, 11, 12, 13, 15]) (.inr (Ent.pick [5] rfl)) (by kernel_rfl) (by kernel_rfl) (by kernel_rfl) rfl rfl ?_ ?_
            · refine OKx_append1 3 0 rfl rfl rfl rfl rfl (by omega) (by omega) ?_; intro gB cB
              apply OKx_nilK
              refine OKd_step1 (S := [0, 1, 2, 3, 4, 5, 6, 7, 8, 9, 10, 11, 12, 15]) (i1 := 13) (S1 := [0, 1, 2, 3, 4, 5, 6, 7, 8, 9, 10, 11, 12, 13, 15]) (.inr (Ent.pick [5] rfl)) (by kernel_rfl) (by kernel_rfl) rfl ?_
              · apply OKx_slit1; (focus ((conv=>lhs;whnf)<;>exact rfl)); (focus exact rfl);intro _
                apply OKx_nilK
                refine OKd_step1 (S := [0, 1, 2, 3, 4, 5, 6, 7, 8, 9, 10, 11, 12, 13, 15]) (i1 := 14) (S1 := [0, 1, 2, 3, 4, 5, 6, 7, 8, 9, 10, 11, 12, 13, 14, 15]) (.inr (Ent.pick [6] rfl)) (by kernel_rfl) (by kernel_rfl) rfl ?_
                · refine OKx_append1 5 0 rfl rfl rfl rfl rfl (by omega) (by omega) ?_; intro gC cC
                  apply OKx_nilK
                  exact hS0 _ _ ⟨by (repeat' (first | refine agree_upd rfl ?_ | exact agree_over | exact agree_refl _ _ | refine agree_over2 rfl ?_)), _, Ent.sub ((((List.Sublist.refl _).cons _).cons _).cons _), gA, cA, gB, cB, gC, cC, _, _, _, rfl, rfl, rfl, rfl, rfl, hx9, hy9, fun _ _ h => h.drop1⟩
            · apply OKx_slit1; (focus ((conv=>lhs;whnf)<;>exact rfl)); (focus exact rfl);intro _
              apply OKx_nilK
              refine OKd_step1 (S := [0, 1, 2, 3, 4, 5, 6, 7, 8, 10, 11, 12, 13, 15]) (i1 := 9) (S1 := [0, 1, 2, 3, 4, 5, 6, 7, 8, 9, 10, 11, 12, 13, 15]) (.inr (Ent.pick [6] rfl)) (by kernel_rfl) (by kernel_rfl) rfl ?_
              · refine OKx_append1 4 1 rfl rfl rfl rfl rfl (by omega) (by omega) ?_; intro gB cB
                apply OKx_nilK
                refine OKd_step1 (S := [0, 1, 2, 3, 4, 5, 6, 7, 8, 9, 10, 11, 12, 13, 15]) (i1 := 14) (S1 := [0, 1, 2, 3, 4, 5, 6, 7, 8, 9, 10, 11, 12, 13, 14, 15]) (.inr (Ent.pick [6] rfl)) (by kernel_rfl) (by kernel_rfl) rfl ?_
                · refine OKx_append1 5 0 rfl rfl rfl rfl rfl (by omega) (by omega) ?_; intro gC cC
                  apply OKx_nilK
                  exact hS0 _ _ ⟨by (repeat' (first | refine agree_upd rfl ?_ | exact agree_over | exact agree_refl _ _ | refine agree_over2 rfl ?_)), _, Ent.sub ((((List.Sublist.refl _).cons _).cons _).cons _), gA, cA, gB, cB, gC, cC, _, _, _, rfl, rfl, rfl, rfl, rfl, hx9, hy9, fun _ _ h => h.drop1⟩
          · apply OKx_slit1; (focus ((conv=>lhs;whnf)<;>exact rfl)); (focus exact rfl);intro _
            apply OKx_nilK
            refine OKd_step1 (S := [0, 1, 2, 3, 5, 6, 7, 8, 10, 11, 12, 13]) (i1 := 4) (S1 := [0, 1, 2, 3, 4, 5, 6, 7, 8, 10, 11, 12, 13]) (.inr (Ent.pick [6] rfl)) (by kernel_rfl) (by kernel_rfl) rfl ?_
            · refine OKx_append1 3 2 rfl rfl rfl rfl rfl (by omega) (by omega) ?_; intro gA cA
              apply OKx_nilK
              refine OKd_pure (S := [0, 1, 2, 3, 4, 5, 6, 7, 8, 10, 11, 12, 13]) (i := 15) (S1 := [0, 1, 2, 3, 4, 5, 6, 7, 8, 10, 11, 12, 13, 15]) (by kernel_rfl) (by kernel_rfl) (by kernel_rfl) rfl ?_
              apply OKx_fldO; (focus ((conv=>lhs;whnf)<;>exact rfl)); (focus exact rfl)
              apply OKx_nilK
              refine OKd_step1 (S := [0, 1, 2, 3, 4, 5, 6, 7, 8, 10, 11, 12, 13, 15]) (i1 := 9) (S1 := [0, 1, 2, 3, 4, 5, 6, 7, 8, 9, 10, 11, 12, 13, 15]) (.inr (Ent.pick [6] rfl)) (by kernel_rfl) (by kernel_rfl) rfl ?_
              · refine OKx_append1 4 1 rfl rfl rfl rfl rfl (by omega) (by omega) ?_; intro gB cB
                apply OKx_nilK
                refine OKd_step1 (S := [0, 1, 2, 3, 4, 5, 6, 7, 8, 9, 10, 11, 12, 13, 15]) (i1 := 14) (S1 := [0, 1, 2, 3, 4, 5, 6, 7, 8, 9, 10, 11, 12, 13, 14, 15]) (.inr (Ent.pick [6] rfl)) (by kernel_rfl) (by kernel_rfl) rfl ?_
                · refine OKx_append1 5 0 rfl rfl rfl rfl rfl (by omega) (by omega) ?_; intro gC cC
                  apply OKx_nilK
                  exact hS0 _ _ ⟨by (repeat' (first | refine agree_upd rfl ?_ | exact agree_over | exact agree_refl _ _ | refine agree_over2 rfl ?_)), _, Ent.sub ((((List.Sublist.refl _).cons _).cons _).cons _), gA, cA, gB, cB, gC, cC, _, _, _, rfl, rfl, rfl, rfl, rfl, hx9, hy9, fun _ _ h => h.drop1⟩
        · apply OKx_slit1; (focus ((conv=>lhs;whnf)<;>exact rfl)); (focus exact rfl);intro _
          apply OKx_nilK
          refine OKd_step2 (S := [0, 1, 2, 3, 5, 6, 7, 10, 11, 12, 13]) (i1 := 4) (S1 := [0, 1, 2, 3, 4, 5, 6, 7, 10, 11, 12, 13]) (i2 := 8) (S2 := [0, 1, 2, 3, 5, 6, 7, 8, 10, 11, 12, 13]) (.inr (Ent.pick [5] rfl)) (by kernel_rfl) (by kernel_rfl) (by kernel_rfl) rfl rfl ?_ ?_
          · refine OKx_append1 2 1 rfl rfl rfl rfl rfl (by omega) (by omega) ?_; intro gA cA
            apply OKx_nilK
            refine OKd_pure (S := [0, 1, 2, 3, 4, 5, 6, 7, 10, 11, 12, 13]) (i := 15) (S1 := [0, 1, 2, 3, 4, 5, 6, 7, 10, 11, 12, 13, 15]) (by kernel_rfl) (by kernel_rfl) (by kernel_rfl) rfl ?_
            apply OKx_fldO; (focus ((conv=>lhs;whnf)<;>exact rfl)); (focus exact rfl)
            apply OKx_nilK
            refine OKd_step1 (S := [0, 1, 2, 3, 4, 5, 6, 7, 10, 11, 12, 13, 15]) (i1 := 8) (S1 := [0, 1, 2, 3, 4, 5, 6, 7, 8, 10, 11, 12, 13, 15]) (.inr (Ent.pick [5] rfl)) (by kernel_rfl) (by kernel_rfl) rfl ?_
            · apply OKx_slit1; (focus ((conv=>lhs;whnf)<;>exact rfl)); (focus exact rfl);intro _
              apply OKx_nilK
              refine OKd_step1 (S := [0, 1, 2, 3, 4, 5, 6, 7, 8, 10, 11, 12, 13, 15]) (i1 := 9) (S1 := [0, 1, 2, 3, 4, 5, 6, 7, 8, 9, 10, 11, 12, 13, 15]) (.inr (Ent.pick [6] rfl)) (by kernel_rfl) (by kernel_rfl) rfl ?_
              · refine OKx_append1 4 0 rfl rfl rfl rfl rfl (by omega) (by omega) ?_; intro gB cB
                apply OKx_nilK
                refine OKd_step1 (S := [0, 1, 2, 3, 4, 5, 6, 7, 8, 9, 10, 11, 12, 13, 15]) (i1 := 14) (S1 := [0, 1, 2, 3, 4, 5, 6, 7, 8, 9, 10, 11, 12, 13, 14, 15]) (.inr (Ent.pick [6] rfl)) (by kernel_rfl) (by kernel_rfl) rfl ?_
                · refine OKx_append1 5 1 rfl rfl rfl rfl rfl (by omega) (by omega) ?_; intro gC cC
                  apply OKx_nilK
                  exact hS0 _ _ ⟨by (repeat' (first | refine agree_upd rfl ?_ | exact agree_over | exact agree_refl _ _ | refine agree_over2 rfl ?_)), _, Ent.sub ((((List.Sublist.refl _).cons _).cons _).cons _), gA, cA, gB, cB, gC, cC, _, _, _, rfl, rfl, rfl, rfl, rfl, hx9, hy9, fun _ _ h => h.drop1⟩
          · apply OKx_slit1; (focus ((conv=>lhs;whnf)<;>exact rfl)); (focus exact rfl);intro _
            apply OKx_nilK
            refine OKd_step1 (S := [0, 1, 2, 3, 5, 6, 7, 8, 10, 11, 12, 13]) (i1 := 4) (S1 := [0, 1, 2, 3, 4, 5, 6, 7, 8, 10, 11, 12, 13]) (.inr (Ent.pick [6] rfl)) (by kernel_rfl) (by kernel_rfl) rfl ?_
            · refine OKx_append1 3 2 rfl rfl rfl rfl rfl (by omega) (by omega) ?_; intro gA cA
              apply OKx_nilK
              refine OKd_pure (S := [0, 1, 2, 3, 4, 5, 6, 7, 8, 10, 11, 12, 13]) (i := 15) (S1 := [0, 1, 2, 3, 4, 5, 6, 7, 8, 10, 11, 12, 13, 15]) (by kernel_rfl) (by kernel_rfl) (by kernel_rfl) rfl ?_
              apply OKx_fldO; (focus ((conv=>lhs;whnf)<;>exact rfl)); (focus exact rfl)
              apply OKx_nilK
              refine OKd_step1 (S := [0, 1, 2, 3, 4, 5, 6, 7, 8, 10, 11, 12, 13, 15]) (i1 := 9) (S1 := [0, 1, 2, 3, 4, 5, 6, 7, 8, 9, 10, 11, 12, 13, 15]) (.inr (Ent.pick [6] rfl)) (by kernel_rfl) (by kernel_rfl) rfl ?_
              · refine OKx_append1 4 0 rfl rfl rfl rfl rfl (by omega) (by omega) ?_; intro gB cB
                apply OKx_nilK
                refine OKd_step1 (S := [0, 1, 2, 3, 4, 5, 6, 7, 8, 9, 10, 11, 12, 13, 15]) (i1 := 14) (S1 := [0, 1, 2, 3, 4, 5, 6, 7, 8, 9, 10, 11, 12, 13, 14, 15]) (.inr (Ent.pick [6] rfl)) (by kernel_rfl) (by kernel_rfl) rfl ?_
                · refine OKx_append1 5 1 rfl rfl rfl rfl rfl (by omega) (by omega) ?_; intro gC cC
                  apply OKx_nilK
                  exact hS0 _ _ ⟨by (repeat' (first | refine agree_upd rfl ?_ | exact agree_over | exact agree_refl _ _ | refine agree_over2 rfl ?_)), _, Ent.sub ((((List.Sublist.refl _).cons _).cons _).cons _), gA, cA, gB, cB, gC, cC, _, _, _, rfl, rfl, rfl, rfl, rfl, hx9, hy9, fun _ _ h => h.drop1⟩
      · apply OKx_slit1; (focus ((conv=>lhs;whnf)<;>exact rfl)); (focus exact rfl);intro _
        apply OKx_nilK
        refine OKd_step2 (S := [0, 1, 2, 5, 6, 7, 8, 10, 11, 12]) (i1 := 3) (S1 := [0, 1, 2, 3, 5, 6, 7, 8, 10, 11, 12]) (i2 := 13) (S2 := [0, 1, 2, 5, 6, 7, 8, 10, 11, 12, 13]) (.inr (Ent.pick [4] rfl)) (by kernel_rfl) (by kernel_rfl) (by kernel_rfl) rfl rfl ?_ ?_
        · apply OKx_slit1; (focus ((conv=>lhs;whnf)<;>exact rfl)); (focus exact rfl);intro _
          apply OKx_nilK
          refine OKd_step2 (S := [0, 1, 2, 3, 5, 6, 7, 8, 10, 11, 12]) (i1 := 4) (S1 := [0, 1, 2, 3, 4, 5, 6, 7, 8, 10, 11, 12]) (i2 := 13) (S2 := [0, 1, 2, 3, 5, 6, 7, 8, 10, 11, 12, 13]) (.inr (Ent.pick [5] rfl)) (by kernel_rfl) (by kernel_rfl) (by kernel_rfl) rfl rfl ?_ ?_
          · refine OKx_append1 2 0 rfl rfl rfl rfl rfl (by omega) (by omega) ?_; intro gA cA
            apply OKx_nilK
            refine OKd_pure (S := [0, 1, 2, 3, 4, 5, 6, 7, 8, 10, 11, 12]) (i := 15) (S1 := [0, 1, 2, 3, 4, 5, 6, 7, 8, 10, 11, 12, 15]) (by kernel_rfl) (by kernel_rfl) (by kernel_rfl) rfl ?_
            apply OKx_fldO; (focus ((conv=>lhs;whnf)<;>exact rfl)); (focus exact rfl)
            apply OKx_nilK
            refine OKd_step2 (S := [0, 1, 2, 3, 4, 5, 6, 7, 8, 10, 11, 12, 15]) (i1 := 9) (S1 := [0, 1, 2, 3, 4, 5, 6, 7, 8, 9, 10, 11, 12, 15]) (i2 := 13) (S2 := [0, 1, 2, 3, 4, 5, 6, 7, 8, 10, 11, 12, 13, 15]) (.inr (Ent.pick [5] rfl)) (by kernel_rfl) (by kernel_rfl) (by kernel_rfl) rfl rfl ?_ ?_
            · refine OKx_append1 3 1 rfl rfl rfl rfl rfl (by omega) (by omega) ?_; intro gB cB
              apply OKx_nilK
              refine OKd_step1 (S := [0, 1, 2, 3, 4, 5, 6, 7, 8, 9, 10, 11, 12, 15]) (i1 := 13) (S1 := [0, 1, 2, 3, 4, 5, 6, 7, 8, 9, 10, 11, 12, 13, 15]) (.inr (Ent.pick [5] rfl)) (by kernel_rfl) (by kernel_rfl) rfl ?_
              · apply OKx_slit1; (focus ((conv=>lhs;whnf)<;>exact rfl)); (focus exact rfl);intro _
                apply OKx_nilK
                refine OKd_step1 (S := [0, 1, 2, 3, 4, 5, 6, 7, 8, 9, 10, 11, 12, 13, 15]) (i1 := 14) (S1 := [0, 1, 2, 3, 4, 5, 6, 7, 8, 9, 10, 11, 12, 13, 14, 15]) (.inr (Ent.pick [6] rfl)) (by kernel_rfl) (by kernel_rfl) rfl ?_
                · refine OKx_append1 5 0 rfl rfl rfl rfl rfl (by omega) (by omega) ?_; intro gC cC
                  apply OKx_nilK
                  exact hS0 _ _ ⟨by (repeat' (first | refine agree_upd rfl ?_ | exact agree_over | exact agree_refl _ _ | refine agree_over2 rfl ?_)), _, Ent.sub ((((List.Sublist.refl _).cons _).cons _).cons _), gA, cA, gB, cB, gC, cC, _, _, _, rfl, rfl, rfl, rfl, rfl, hx9, hy9, fun _ _ h => h.drop1⟩
            · apply OKx_slit1; (focus ((conv=>lhs;whnf)<;>exact rfl)); (focus exact rfl);intro _
              apply OKx_nilK
              refine OKd_step1 (S := [0, 1, 2, 3, 4, 5, 6, 7, 8, 10, 11, 12, 13, 15]) (i1 := 9) (S1 := [0, 1, 2, 3, 4, 5, 6, 7, 8, 9, 10, 11, 12, 13, 15]) (.inr (Ent.pick [6] rfl)) (by kernel_rfl) (by kernel_rfl) rfl ?_
              · refine OKx_append1 4 2 rfl rfl rfl rfl rfl (by omega) (by omega) ?_; intro gB cB
                apply OKx_nilK
                refine OKd_step1 (S := [0, 1, 2, 3, 4, 5, 6, 7, 8, 9, 10, 11, 12, 13, 15]) (i1 := 14) (S1 := [0, 1, 2, 3, 4, 5, 6, 7, 8, 9, 10, 11, 12, 13, 14, 15]) (.inr (Ent.pick [6] rfl)) (by kernel_rfl) (by kernel_rfl) rfl ?_
                · refine OKx_append1 5 0 rfl rfl rfl rfl rfl (by omega) (by omega) ?_; intro gC cC
                  apply OKx_nilK
                  exact hS0 _ _ ⟨by (repeat' (first | refine agree_upd rfl ?_ | exact agree_over | exact agree_refl _ _ | refine agree_over2 rfl ?_)), _, Ent.sub ((((List.Sublist.refl _).cons _).cons _).cons _), gA, cA, gB, cB, gC, cC, _, _, _, rfl, rfl, rfl, rfl, rfl, hx9, hy9, fun _ _ h => h.drop1⟩
          · apply OKx_slit1; (focus ((conv=>lhs;whnf)<;>exact rfl)); (focus exact rfl);intro _
            apply OKx_nilK
            refine OKd_step1 (S := [0, 1, 2, 3, 5, 6, 7, 8, 10, 11, 12, 13]) (i1 := 4) (S1 := [0, 1, 2, 3, 4, 5, 6, 7, 8, 10, 11, 12, 13]) (.inr (Ent.pick [6] rfl)) (by kernel_rfl) (by kernel_rfl) rfl ?_
            · refine OKx_append1 3 1 rfl rfl rfl rfl rfl (by omega) (by omega) ?_; intro gA cA
              apply OKx_nilK
              refine OKd_pure (S := [0, 1, 2, 3, 4, 5, 6, 7, 8, 10, 11, 12, 13]) (i := 15) (S1 := [0, 1, 2, 3, 4, 5, 6, 7, 8, 10, 11, 12, 13, 15]) (by kernel_rfl) (by kernel_rfl) (by kernel_rfl) rfl ?_
              apply OKx_fldO; (focus ((conv=>lhs;whnf)<;>exact rfl)); (focus exact rfl)
              apply OKx_nilK
              refine OKd_step1 (S := [0, 1, 2, 3, 4, 5, 6, 7, 8, 10, 11, 12, 13, 15]) (i1 := 9) (S1 := [0, 1, 2, 3, 4, 5, 6, 7, 8, 9, 10, 11, 12, 13, 15]) (.inr (Ent.pick [6] rfl)) (by kernel_rfl) (by kernel_rfl) rfl ?_
              · refine OKx_append1 4 2 rfl rfl rfl rfl rfl (by omega) (by omega) ?_; intro gB cB
                apply OKx_nilK
                refine OKd_step1 (S := [0, 1, 2, 3, 4, 5, 6, 7, 8, 9, 10, 11, 12, 13, 15]) (i1 := 14) (S1 := [0, 1, 2, 3, 4, 5, 6, 7, 8, 9, 10, 11, 12, 13, 14, 15]) (.inr (Ent.pick [6] rfl)) (by kernel_rfl) (by kernel_rfl) rfl ?_
                · refine OKx_append1 5 0 rfl rfl rfl rfl rfl (by omega) (by omega) ?_; intro gC cC
                  apply OKx_nilK
                  exact hS0 _ _ ⟨by (repeat' (first | refine agree_upd rfl ?_ | exact agree_over | exact agree_refl _ _ | refine agree_over2 rfl ?_)), _, Ent.sub ((((List.Sublist.refl _).cons _).cons _).cons _), gA, cA, gB, cB, gC, cC, _, _, _, rfl, rfl, rfl, rfl, rfl, hx9, hy9, fun _ _ h => h.drop1⟩
        · apply OKx_slit1; (focus ((conv=>lhs;whnf)<;>exact rfl)); (focus exact rfl);intro _
          apply OKx_nilK
          refine OKd_step1 (S := [0, 1, 2, 5, 6, 7, 8, 10, 11, 12, 13]) (i1 := 3) (S1 := [0, 1, 2, 3, 5, 6, 7, 8, 10, 11, 12, 13]) (.inr (Ent.pick [5] rfl)) (by kernel_rfl) (by kernel_rfl) rfl ?_
          · apply OKx_slit1; (focus ((conv=>lhs;whnf)<;>exact rfl)); (focus exact rfl);intro _
            apply OKx_nilK
            refine OKd_step1 (S := [0, 1, 2, 3, 5, 6, 7, 8, 10, 11, 12, 13]) (i1 := 4) (S1 := [0, 1, 2, 3, 4, 5, 6, 7, 8, 10, 11, 12, 13]) (.inr (Ent.pick [6] rfl)) (by kernel_rfl) (by kernel_rfl) rfl ?_
            · refine OKx_append1 3 0 rfl rfl rfl rfl rfl (by omega) (by omega) ?_; intro gA cA
              apply OKx_nilK
              refine OKd_pure (S := [0, 1, 2, 3, 4, 5, 6, 7, 8, 10, 11, 12, 13]) (i := 15) (S1 := [0, 1, 2, 3, 4, 5, 6, 7, 8, 10, 11, 12, 13, 15]) (by kernel_rfl) (by kernel_rfl) (by kernel_rfl) rfl ?_
              apply OKx_fldO; (focus ((conv=>lhs;whnf)<;>exact rfl)); (focus exact rfl)
              apply OKx_nilK
              refine OKd_step1 (S := [0, 1, 2, 3, 4, 5, 6, 7, 8, 10, 11, 12, 13, 15]) (i1 := 9) (S1 := [0, 1, 2, 3, 4, 5, 6, 7, 8, 9, 10, 11, 12, 13, 15]) (.inr (Ent.pick [6] rfl)) (by kernel_rfl) (by kernel_rfl) rfl ?_
              · refine OKx_append1 4 2 rfl rfl rfl rfl rfl (by omega) (by omega) ?_; intro gB cB
                apply OKx_nilK
                refine OKd_step1 (S := [0, 1, 2, 3, 4, 5, 6, 7, 8, 9, 10, 11, 12, 13, 15]) (i1 := 14) (S1 := [0, 1, 2, 3, 4, 5, 6, 7, 8, 9, 10, 11, 12, 13, 14, 15]) (.inr (Ent.pick [6] rfl)) (by kernel_rfl) (by kernel_rfl) rfl ?_
                · refine OKx_append1 5 1 rfl rfl rfl rfl rfl (by omega) (by omega) ?_; intro gC cC
                  apply OKx_nilK
                  exact hS0 _ _ ⟨by (repeat' (first | refine agree_upd rfl ?_ | exact agree_over | exact agree_refl _ _ | refine agree_over2 rfl ?_)), _, Ent.sub ((((List.Sublist.refl _).cons _).cons _).cons _), gA, cA, gB, cB, gC, cC, _, _, _, rfl, rfl, rfl, rfl, rfl, hx9, hy9, fun _ _ h => h.drop1⟩
      · apply OKx_slit1; (focus ((conv=>lhs;whnf)<;>exact rfl)); (focus exact rfl);intro _
        apply OKx_nilK
        refine OKd_step2 (S := [0, 1, 2, 5, 6, 7, 10, 11, 12, 13]) (i1 := 3) (S1 := [0, 1, 2, 3, 5, 6, 7, 10, 11, 12, 13]) (i2 := 8) (S2 := [0, 1, 2, 5, 6, 7, 8, 10, 11, 12, 13]) (.inr (Ent.pick [4] rfl)) (by kernel_rfl) (by kernel_rfl) (by kernel_rfl) rfl rfl ?_ ?_
        · apply OKx_slit1; (focus ((conv=>lhs;whnf)<;>exact rfl)); (focus exact rfl);intro _
          apply OKx_nilK
          refine OKd_step2 (S := [0, 1, 2, 3, 5, 6, 7, 10, 11, 12, 13]) (i1 := 4) (S1 := [0, 1, 2, 3, 4, 5, 6, 7, 10, 11, 12, 13]) (i2 := 8) (S2 := [0, 1, 2, 3, 5, 6, 7, 8, 10, 11, 12, 13]) (.inr (Ent.pick [5] rfl)) (by kernel_rfl) (by kernel_rfl) (by kernel_rfl) rfl rfl ?_ ?_
          · refine OKx_append1 2 0 rfl rfl rfl rfl rfl (by omega) (by omega) ?_; intro gA cA
            apply OKx_nilK
            refine OKd_pure (S := [0, 1, 2, 3, 4, 5, 6, 7, 10, 11, 12, 13]) (i := 15) (S1 := [0, 1, 2, 3, 4, 5, 6, 7, 10, 11, 12, 13, 15]) (by kernel_rfl) (by kernel_rfl) (by kernel_rfl) rfl ?_
            apply OKx_fldO; (focus ((conv=>lhs;whnf)<;>exact rfl)); (focus exact rfl)
            apply OKx_nilK
            refine OKd_step1 (S := [0, 1, 2, 3, 4, 5, 6, 7, 10, 11, 12, 13, 15]) (i1 := 8) (S1 := [0, 1, 2, 3, 4, 5, 6, 7, 8, 10, 11, 12, 13, 15]) (.inr (Ent.pick [5] rfl)) (by kernel_rfl) (by kernel_rfl) rfl ?_
            · apply OKx_slit1; (focus ((conv=>lhs;whnf)<;>exact rfl)); (focus exact rfl);intro _
              apply OKx_nilK
              refine OKd_step1 (S := [0, 1, 2, 3, 4, 5, 6, 7, 8, 10, 11, 12, 13, 15]) (i1 := 9) (S1 := [0, 1, 2, 3, 4, 5, 6, 7, 8, 9, 10, 11, 12, 13, 15]) (.inr (Ent.pick [6] rfl)) (by kernel_rfl) (by kernel_rfl) rfl ?_
              · refine OKx_append1 4 0 rfl rfl rfl rfl rfl (by omega) (by omega) ?_; intro gB cB
                apply OKx_nilK
                refine OKd_step1 (S := [0, 1, 2, 3, 4, 5, 6, 7, 8, 9, 10, 11, 12, 13, 15]) (i1 := 14) (S1 := [0, 1, 2, 3, 4, 5, 6, 7, 8, 9, 10, 11, 12, 13, 14, 15]) (.inr (Ent.pick [6] rfl)) (by kernel_rfl) (by kernel_rfl) rfl ?_
                · refine OKx_append1 5 2 rfl rfl rfl rfl rfl (by omega) (by omega) ?_; intro gC cC
                  apply OKx_nilK
                  exact hS0 _ _ ⟨by (repeat' (first | refine agree_upd rfl ?_ | exact agree_over | exact agree_refl _ _ | refine agree_over2 rfl ?_)), _, Ent.sub ((((List.Sublist.refl _).cons _).cons _).cons _), gA, cA, gB, cB, gC, cC, _, _, _, rfl, rfl, rfl, rfl, rfl, hx9, hy9, fun _ _ h => h.drop1⟩
          · apply OKx_slit1; (focus ((conv=>lhs;whnf)<;>exact rfl)); (focus exact rfl);intro _
            apply OKx_nilK
            refine OKd_step1 (S := [0, 1, 2, 3, 5, 6, 7, 8, 10, 11, 12, 13]) (i1 := 4) (S1 := [0, 1, 2, 3, 4, 5, 6, 7, 8, 10, 11, 12, 13]) (.inr (Ent.pick [6] rfl)) (by kernel_rfl) (by kernel_rfl) rfl ?_
            · refine OKx_append1 3 1 rfl rfl rfl rfl rfl (by omega) (by omega) ?_; intro gA cA
              apply OKx_nilK
              refine OKd_pure (S := [0, 1, 2, 3, 4, 5, 6, 7, 8, 10, 11, 12, 13]) (i := 15) (S1 := [0, 1, 2, 3, 4, 5, 6, 7, 8, 10, 11, 12, 13, 15]) (by kernel_rfl) (by kernel_rfl) (by kernel_rfl) rfl ?_
              apply OKx_fldO; (focus ((conv=>lhs;whnf)<;>exact rfl)); (focus exact rfl)
              apply OKx_nilK
              refine OKd_step1 (S := [0, 1, 2, 3, 4, 5, 6, 7, 8, 10, 11, 12, 13, 15]) (i1 := 9) (S1 := [0, 1, 2, 3, 4, 5, 6, 7, 8, 9, 10, 11, 12, 13, 15]) (.inr (Ent.pick [6] rfl)) (by kernel_rfl) (by kernel_rfl) rfl ?_
              · refine OKx_append1 4 0 rfl rfl rfl rfl rfl (by omega) (by omega) ?_; intro gB cB
                apply OKx_nilK
                refine OKd_step1 (S := [0, 1, 2, 3, 4, 5, 6, 7, 8, 9, 10, 11, 12, 13, 15]) (i1 := 14) (S1 := [0, 1, 2, 3, 4, 5, 6, 7, 8, 9, 10, 11, 12, 13, 14, 15]) (.inr (Ent.pick [6] rfl)) (by kernel_rfl) (by kernel_rfl) rfl ?_
                · refine OKx_append1 5 2 rfl rfl rfl rfl rfl (by omega) (by omega) ?_; intro gC cC
                  apply OKx_nilK
                  exact hS0 _ _ ⟨by (repeat' (first | refine agree_upd rfl ?_ | exact agree_over | exact agree_refl _ _ | refine agree_over2 rfl ?_)), _, Ent.sub ((((List.Sublist.refl _).cons _).cons _).cons _), gA, cA, gB, cB, gC, cC, _, _, _, rfl, rfl, rfl, rfl, rfl, hx9, hy9, fun _ _ h => h.drop1⟩
        · apply OKx_slit1; (focus ((conv=>lhs;whnf)<;>exact rfl)); (focus exact rfl);intro _
          apply OKx_nilK
          refine OKd_step1 (S := [0, 1, 2, 5, 6, 7, 8, 10, 11, 12, 13]) (i1 := 3) (S1 := [0, 1, 2, 3, 5, 6, 7, 8, 10, 11, 12, 13]) (.inr (Ent.pick [5] rfl)) (by kernel_rfl) (by kernel_rfl) rfl ?_
          · apply OKx_slit1; (focus ((conv=>lhs;whnf)<;>exact rfl)); (focus exact rfl);intro _
            apply OKx_nilK
            refine OKd_step1 (S := [0, 1, 2, 3, 5, 6, 7, 8, 10, 11, 12, 13]) (i1 := 4) (S1 := [0, 1, 2, 3, 4, 5, 6, 7, 8, 10, 11, 12, 13]) (.inr (Ent.pick [6] rfl)) (by kernel_rfl) (by kernel_rfl) rfl ?_
            · refine OKx_append1 3 0 rfl rfl rfl rfl rfl (by omega) (by omega) ?_; intro gA cA
              apply OKx_nilK
              refine OKd_pure (S := [0, 1, 2, 3, 4, 5, 6, 7, 8, 10, 11, 12, 13]) (i := 15) (S1 := [0, 1, 2, 3, 4, 5, 6, 7, 8, 10, 11, 12, 13, 15]) (by kernel_rfl) (by kernel_rfl) (by kernel_rfl) rfl ?_
              apply OKx_fldO; (focus ((conv=>lhs;whnf)<;>exact rfl)); (focus exact rfl)
              apply OKx_nilK
              refine OKd_step1 (S := [0, 1, 2, 3, 4, 5, 6, 7, 8, 10, 11, 12, 13, 15]) (i1 := 9) (S1 := [0, 1, 2, 3, 4, 5, 6, 7, 8, 9, 10, 11, 12, 13, 15]) (.inr (Ent.pick [6] rfl)) (by kernel_rfl) (by kernel_rfl) rfl ?_
              · refine OKx_append1 4 1 rfl rfl rfl rfl rfl (by omega) (by omega) ?_; intro gB cB
                apply OKx_nilK
                refine OKd_step1 (S := [0, 1, 2, 3, 4, 5, 6, 7, 8, 9, 10, 11, 12, 13, 15]) (i1 := 14) (S1 := [0, 1, 2, 3, 4, 5, 6, 7, 8, 9, 10, 11, 12, 13, 14, 15]) (.inr (Ent.pick [6] rfl)) (by kernel_rfl) (by kernel_rfl) rfl ?_
                · refine OKx_append1 5 2 rfl rfl rfl rfl rfl (by omega) (by omega) ?_; intro gC cC
                  apply OKx_nilK
                  exact hS0 _ _ ⟨by (repeat' (first | refine agree_upd rfl ?_ | exact agree_over | exact agree_refl _ _ | refine agree_over2 rfl ?_)), _, Ent.sub ((((List.Sublist.refl _).cons _).cons _).cons _), gA, cA, gB, cB, gC, cC, _, _, _, rfl, rfl, rfl, rfl, rfl, hx9, hy9, fun _ _ h => h.drop1⟩
  · skip
    rw [if_neg he] at hw
    have hx9 := hxx true (decide_eq_true he).symm
    have hy9 : ∀ w0 w1, Hp w0.heap.size w0 w1 Z → Ints w1 (.slice none 0 0) (if k = 0 then [] else [t.par.getD k 0]) := fun w0 w1 _ => by rw [if_pos hk0]; exact Ints.nil w1
    rw [← hw] at he
    repeat' (first|(apply OK_seq)|(apply thenQ_n)|(apply OK_region)|(apply OKx_gl; refine OKx_ldR rfl (by assumption) ?_; rw [← hw])|(apply OKx_gn; apply OKx_sneq;exact rfl;exact rfl; all_goals (intro hs9; first | (exfalso; exact he hs9) | skip))|(apply OKx_nilK)|(apply OK_block)|(apply blockQ_n)|(apply blockQ_s)|(apply thenQ_e)|(apply blockQ_e;exact rfl)|(apply thenQ_r)|(apply blockQ_r)|(apply OK_condT;exact rfl)|(apply OK_condF;exact rfl)|(apply OK_skip)|(apply OK_exit)|(apply OK_ret)|(apply OKx_move;(conv=>lhs;whnf)<;>exact rfl)|(apply OKx_assign;(conv=>lhs;whnf)<;>exact rfl)|(apply OKx_ldB;exact rfl;(first | exact at0|exact at1|exact at2|exact at3|exact at4|exact at5|exact at6|exact at7);exact rfl)|(apply OKx_ldR;(conv=>lhs;whnf)<;>exact rfl;(with_reducible assumption))|(apply OKx_ldI;exact rfl;(first | exact at0|exact at1|exact at2|exact at3|exact at4|exact at5|exact at6|exact at7);omega)|(apply OKx_len;exact rfl)|(apply OKx_lenR;(conv=>lhs;whnf)<;>exact rfl;(with_reducible assumption))|(apply OKx_lenR2;(conv=>lhs;whnf)<;>exact rfl;(with_reducible assumption))|(apply OKx_lenO;(conv=>lhs;whnf)<;>exact rfl;(first | exact at0|exact at1|exact at2|exact at3|exact at4|exact at5|exact at6|exact at7))|(apply OKx_lss;exact rfl;exact rfl;all_goals (intro _; try (exfalso;omega)))|(apply OKx_gtr;exact rfl;exact rfl;all_goals (intro _; try (exfalso;omega)))|(apply OKx_neq;exact rfl;exact rfl;all_goals (intro _; try (exfalso;omega)))|(apply OKx_sneq;exact rfl;exact rfl; all_goals intro _)|(apply OKx_idxO;exact rfl;exact rfl;omega)|(apply OKx_idxR;(conv=>lhs;whnf)<;>exact rfl;(with_reducible assumption);exact rfl;omega;intro _ _)|(apply OKx_idxOz;exact rfl;exact rfl;omega;omega)|(apply OKx_idxRz;(conv=>lhs;whnf)<;>exact rfl;(with_reducible assumption);exact rfl;omega;omega;intro _ _)|(apply OKx_fldO;exact rfl;exact rfl)|(apply OKx_fldR;(conv=>lhs;whnf)<;>exact rfl;(with_reducible assumption); decide;intro _ _)|(apply OKx_inc;exact rfl;exact rfl;omega)|(apply OKx_addN;exact rfl;exact rfl;omega)|(apply OKx_add;exact rfl;exact rfl;omega;omega)|(apply OKx_notT;exact rfl)|(apply OKx_notF;exact rfl)|(apply OKx_boxA;exact rfl;intro _)|(apply OKx_allocA;intro _)|(apply OKx_ldBA;exact rfl;(first | exact at0|exact at1|exact at2|exact at3|exact at4|exact at5|exact at6|exact at7);exact rfl)|(apply OKx_ldRA;(conv=>lhs;whnf)<;>exact rfl;(with_reducible assumption))|(apply OKx_stB;exact rfl;(conv=>lhs;whnf)<;>exact rfl;exact rfl;exact rfl;(first | exact at0|exact at1|exact at2|exact at3|exact at4|exact at5|exact at6|exact at7);exact rfl;exact rfl;exact rfl)|(apply OKx_slit1;(conv=>lhs;whnf)<;>exact rfl;exact rfl;intro _)|(apply OKx_stBA; kernel_rfl;exact rfl;exact rfl;exact rfl;(first | exact at0|exact at1|exact at2|exact at3|exact at4|exact at5|exact at6|exact at7);exact rfl;exact rfl;exact rfl)|(refine OKa_end (S := []) (by kernel_rfl) ?_))
    refine OK_pureAnz4 21 12 5 16 [0, 1, 2, 5, 6, 7, 10, 11, 12] [.box 26 go [.slice na k nc, .slice ea k ec, .slice pa k pc]] [0, 1, 2, 3, 4, 5, 6, 7, 8, 9, 10, 11, 12, 13, 14, 15] [38, 39, 40, 41, 42, 43, 44, 45, 46, 47, 48, 49, 50, 51, 52, 53, 54, 55] 42 47 52 53
      (fun v1 v2 v3 v4 L => ∃ (gA cA gB cB gC cC : Nat) (x y : Value) (Z2 : List Res), v1 = .slice (some ⟨gA, 0, none⟩) (k + 1) cA ∧ v2 = .slice (some ⟨gB, 0, none⟩) (k + 1) cB ∧ v3 = .slice (some ⟨gC, 0, none⟩) (k + 1) cC ∧ v4 = .pointer (some ⟨go, 0, none⟩) ∧
        L = .row 9 1 (.slice (some ⟨gA, 0, none⟩) (k + 1) cA) (k + 1) (strs (ftN t k) ++ [.string (treW t k)]) :: .row 4 1 (.slice (some ⟨gB, 0, none⟩) (k + 1) cB) (k + 1) (bools (ftX t k) ++ [x]) :: .row 27 1 (.slice (some ⟨gC, 0, none⟩) (k + 1) cC) (k + 1) (vs ++ [y]) :: .box 26 go [.slice na k nc, .slice ea k ec, .slice pa k pc] :: .box 26 gr [.slice none 0 0, .slice none 0 0, .slice none 0 0] :: .box 41 gt [pv, nv] :: Z2 ∧
        x = .bool (decide (t.names.getD k ByteArray.empty ≠ ByteArray.empty)) ∧ (∀ w0 w1, Hp w0.heap.size w0 w1 Z2 → Ints w1 y (if k = 0 then [] else [t.par.getD k 0])) ∧ (∀ w0 w1, Hp w0.heap.size w0 w1 Z2 → Hp w0.heap.size w0 w1 Z))
      (id := 13) (by kernel_rfl) (by kernel_rfl) (by kernel_rfl) (by kernel_rfl) (by kernel_rfl) (by kernel_rfl) (Ent.pick [3] rfl) (by ((try simp only [pickO, nthO, List.cons_append, List.nil_append, List.append_nil]) <;> exact rfl)) (by kernel_rfl) ?_ ?_
    · rintro v1 v2 v3 v4 L1 G9 ⟨gA, cA, gB, cB, gC, cC, x, y, Z2, rfl, rfl, rfl, rfl, rfl, rfl, hy, hz2⟩
      repeat' (first|(apply OK_seq)|(apply thenQ_n)|(apply OK_region)|(refine OKd_step1 (S := [0, 1, 2, 3, 4, 5, 6, 7, 8, 9, 10, 11, 12, 13, 14, 15]) (i1 := 16) (S1 := [0, 1, 2, 3, 4, 5, 6, 7, 8, 9, 10, 11, 12, 13, 14, 15, 16]) (.inr (Ent.pick [3] rfl)) (by kernel_rfl) (by kernel_rfl) rfl ?_)|(refine OKd_step1 (S := [0, 1, 2, 3, 4, 5, 6, 7, 8, 9, 10, 11, 12, 13, 14, 15, 16]) (i1 := 17) (S1 := [0, 1, 2, 3, 4, 5, 6, 7, 8, 9, 10, 11, 12, 13, 14, 15, 16, 17]) (.inl (by kernel_rfl)) (by kernel_rfl) (by kernel_rfl) rfl ?_)|(refine OKd_step1 (S := [0, 1, 2, 3, 4, 5, 6, 7, 8, 9, 10, 11, 12, 13, 14, 15, 16, 17]) (i1 := 18) (S1 := [0, 1, 2, 3, 4, 5, 6, 7, 8, 9, 10, 11, 12, 13, 14, 15, 16, 17, 18]) (.inl (by kernel_rfl)) (by kernel_rfl) (by kernel_rfl) rfl ?_)|(refine OKd_step1 (S := [0, 1, 2, 3, 4, 5, 6, 7, 8, 9, 10, 11, 12, 13, 14, 15, 16, 17, 18]) (i1 := 19) (S1 := [0, 1, 2, 3, 4, 5, 6, 7, 8, 9, 10, 11, 12, 13, 14, 15, 16, 17, 18, 19]) (.inl (by kernel_rfl)) (by kernel_rfl) (by kernel_rfl) rfl ?_)|(refine OKd_step1 (S := [0, 1, 2, 3, 4, 5, 6, 7, 8, 9, 10, 11, 12, 13, 14, 15, 16, 17, 18, 19]) (i1 := 20) (S1 := [0, 1, 2, 3, 4, 5, 6, 7, 8, 9, 10, 11, 12, 13, 14, 15, 16, 17, 18, 19, 20]) (.inl (by kernel_rfl)) (by kernel_rfl) (by kernel_rfl) rfl ?_)|(refine OKd_end (S := [0, 1, 2, 3, 4, 5, 6, 7, 8, 9, 10, 11, 12, 13, 14, 15, 16, 17, 18, 19, 20]) (by kernel_rfl) (.inl (by kernel_rfl)) ?_)|(refine OK_rid 13 ?_; refine OK_mix [0, 1, 5, 6, 7, 10, 11, 12] [2] [] [3, 4, 8, 9, 13, 14, 15, 16, 17, 18, 19, 20] [] (id := 13) (by kernel_rfl) (by kernel_rfl) rfl (Ent.nil) (by ((try simp only [pickO, nthO, List.cons_append, List.nil_append]) <;> exact rfl)) (by ((try simp only [pickO, nthO, List.cons_append, List.nil_append]) <;> exact rfl)) (by ((try simp only [pickO]) <;> exact rfl)) (by ((try simp only [pickO, nthO, List.cons_append, List.nil_append]) <;> exact rfl)) ?_)|(apply OKx_nilK)|(apply OK_block)|(apply blockQ_n)|(apply blockQ_s)|(apply thenQ_e)|(apply blockQ_e;exact rfl)|(apply thenQ_r)|(apply blockQ_r)|(apply OK_condT;exact rfl)|(apply OK_condF;exact rfl)|(apply OK_skip)|(apply OK_exit)|(apply OK_ret)|(apply OKx_move;(conv=>lhs;whnf)<;>exact rfl)|(apply OKx_assign;(conv=>lhs;whnf)<;>exact rfl)|(apply OKx_ldB;exact rfl;(first | exact at0|exact at1|exact at2|exact at3|exact at4|exact at5|exact at6|exact at7);exact rfl)|(apply OKx_ldR;(conv=>lhs;whnf)<;>exact rfl;(with_reducible assumption))|(apply OKx_ldI;exact rfl;(first | exact at0|exact at1|exact at2|exact at3|exact at4|exact at5|exact at6|exact at7);omega)|(apply OKx_len;exact rfl)|(apply OKx_lenR;(conv=>lhs;whnf)<;>exact rfl;(with_reducible assumption))|(apply OKx_lenR2;(conv=>lhs;whnf)<;>exact rfl;(with_reducible assumption))|(apply OKx_lenO;(conv=>lhs;whnf)<;>exact rfl;(first | exact at0|exact at1|exact at2|exact at3|exact at4|exact at5|exact at6|exact at7))|(apply OKx_lss;exact rfl;exact rfl;all_goals (intro _; try (exfalso;omega)))|(apply OKx_gtr;exact rfl;exact rfl;all_goals (intro _; try (exfalso;omega)))|(apply OKx_neq;exact rfl;exact rfl;all_goals (intro _; try (exfalso;omega)))|(apply OKx_sneq;exact rfl;exact rfl; all_goals intro _)|(apply OKx_idxO;exact rfl;exact rfl;omega)|(apply OKx_idxR;(conv=>lhs;whnf)<;>exact rfl;(with_reducible assumption);exact rfl;omega;intro _ _)|(apply OKx_idxOz;exact rfl;exact rfl;omega;omega)|(apply OKx_idxRz;(conv=>lhs;whnf)<;>exact rfl;(with_reducible assumption);exact rfl;omega;omega;intro _ _)|(apply OKx_fldO;exact rfl;exact rfl)|(apply OKx_fldR;(conv=>lhs;whnf)<;>exact rfl;(with_reducible assumption); decide;intro _ _)|(apply OKx_inc;exact rfl;exact rfl;omega)|(apply OKx_addN;exact rfl;exact rfl;omega)|(apply OKx_add;exact rfl;exact rfl;omega;omega)|(apply OKx_notT;exact rfl)|(apply OKx_notF;exact rfl)|(apply OKx_boxA;exact rfl;intro _)|(apply OKx_allocA;intro _)|(apply OKx_ldBA;exact rfl;(first | exact at0|exact at1|exact at2|exact at3|exact at4|exact at5|exact at6|exact at7);exact rfl)|(apply OKx_ldRA;(conv=>lhs;whnf)<;>exact rfl;(with_reducible assumption))|(apply OKx_stB;exact rfl;(conv=>lhs;whnf)<;>exact rfl;exact rfl;exact rfl;(first | exact at0|exact at1|exact at2|exact at3|exact at4|exact at5|exact at6|exact at7);exact rfl;exact rfl;exact rfl)|(apply OKx_slit1;(conv=>lhs;whnf)<;>exact rfl;exact rfl;intro _)|(apply OKx_stBA; kernel_rfl;exact rfl;exact rfl;exact rfl;(first | exact at0|exact at1|exact at2|exact at3|exact at4|exact at5|exact at6|exact at7);exact rfl;exact rfl;exact rfl))
      refine ⟨by (repeat' (first | refine agree_upd rfl ?_ | exact agree_over | exact agree_refl _ _ | refine agree_over2 rfl ?_)), m - 1, _, by omega, Ent.refl _ _, ?_⟩
      exact ft_next t go gr gt pv nv k m gA cA gB cB gC cC vs Z Z2 y hm hk hvl hZ hy hz2
    · intro hS0
      repeat' (first|(apply OK_seq)|(apply thenQ_n)|(apply OK_region)|(refine OK_rid 13 ?_; refine OK_mix [0, 1, 5, 6, 7, 10, 11, 12] [2] [] [3, 4, 8, 9, 13, 14, 15, 16, 17, 18, 19, 20] [] (id := 13) (by kernel_rfl) (by kernel_rfl) rfl (Ent.nil) (by ((try simp only [pickO, nthO, List.cons_append, List.nil_append]) <;> exact rfl)) (by ((try simp only [pickO, nthO, List.cons_append, List.nil_append]) <;> exact rfl)) (by ((try simp only [pickO]) <;> exact rfl)) (by ((try simp only [pickO, nthO, List.cons_append, List.nil_append]) <;> exact rfl)) ?_)|(apply OKx_nilK)|(apply OK_block)|(apply blockQ_n)|(apply blockQ_s)|(apply thenQ_e)|(apply blockQ_e;exact rfl)|(apply thenQ_r)|(apply blockQ_r)|(apply OK_condT;exact rfl)|(apply OK_condF;exact rfl)|(apply OK_skip)|(apply OK_exit)|(apply OK_ret)|(apply OKx_move;(conv=>lhs;whnf)<;>exact rfl)|(apply OKx_assign;(conv=>lhs;whnf)<;>exact rfl)|(apply OKx_ldB;exact rfl;(first | exact at0|exact at1|exact at2|exact at3|exact at4|exact at5|exact at6|exact at7);exact rfl)|(apply OKx_ldR;(conv=>lhs;whnf)<;>exact rfl;(with_reducible assumption))|(apply OKx_ldI;exact rfl;(first | exact at0|exact at1|exact at2|exact at3|exact at4|exact at5|exact at6|exact at7);omega)|(apply OKx_len;exact rfl)|(apply OKx_lenR;(conv=>lhs;whnf)<;>exact rfl;(with_reducible assumption))|(apply OKx_lenR2;(conv=>lhs;whnf)<;>exact rfl;(with_reducible assumption))|(apply OKx_lenO;(conv=>lhs;whnf)<;>exact rfl;(first | exact at0|exact at1|exact at2|exact at3|exact at4|exact at5|exact at6|exact at7))|(apply OKx_lss;exact rfl;exact rfl;all_goals (intro _; try (exfalso;omega)))|(apply OKx_gtr;exact rfl;exact rfl;all_goals (intro _; try (exfalso;omega)))|(apply OKx_neq;exact rfl;exact rfl;all_goals (intro _; try (exfalso;omega)))|(apply OKx_sneq;exact rfl;exact rfl; all_goals intro _)|(apply OKx_idxO;exact rfl;exact rfl;omega)|(apply OKx_idxR;(conv=>lhs;whnf)<;>exact rfl;(with_reducible assumption);exact rfl;omega;intro _ _)|(apply OKx_idxOz;exact rfl;exact rfl;omega;omega)|(apply OKx_idxRz;(conv=>lhs;whnf)<;>exact rfl;(with_reducible assumption);exact rfl;omega;omega;intro _ _)|(apply OKx_fldO;exact rfl;exact rfl)|(apply OKx_fldR;(conv=>lhs;whnf)<;>exact rfl;(with_reducible assumption); decide;intro _ _)|(apply OKx_inc;exact rfl;exact rfl;omega)|(apply OKx_addN;exact rfl;exact rfl;omega)|(apply OKx_add;exact rfl;exact rfl;omega;omega)|(apply OKx_notT;exact rfl)|(apply OKx_notF;exact rfl)|(apply OKx_boxA;exact rfl;intro _)|(apply OKx_allocA;intro _)|(apply OKx_ldBA;exact rfl;(first | exact at0|exact at1|exact at2|exact at3|exact at4|exact at5|exact at6|exact at7);exact rfl)|(apply OKx_ldRA;(conv=>lhs;whnf)<;>exact rfl;(with_reducible assumption))|(apply OKx_stB;exact rfl;(conv=>lhs;whnf)<;>exact rfl;exact rfl;exact rfl;(first | exact at0|exact at1|exact at2|exact at3|exact at4|exact at5|exact at6|exact at7);exact rfl;exact rfl;exact rfl)|(apply OKx_slit1;(conv=>lhs;whnf)<;>exact rfl;exact rfl;intro _)|(apply OKx_stBA; kernel_rfl;exact rfl;exact rfl;exact rfl;(first | exact at0|exact at1|exact at2|exact at3|exact at4|exact at5|exact at6|exact at7);exact rfl;exact rfl;exact rfl))
      refine OKd_step3 (S := [0, 1, 2, 5, 6, 7, 10, 11, 12]) (i1 := 3) (S1 := [0, 1, 2, 3, 5, 6, 7, 10, 11, 12]) (i2 := 8) (S2 := [0, 1, 2, 5, 6, 7, 8, 10, 11, 12]) (i3 := 13) (S3 := [0, 1, 2, 5, 6, 7, 10, 11, 12, 13]) (.inr (Ent.pick [3] rfl)) (by kernel_rfl) (by kernel_rfl) (by kernel_rfl) (by kernel_rfl) rfl rfl rfl ?_ ?_ ?_
      · apply OKx_slit1; (focus ((conv=>lhs;whnf)<;>exact rfl)); (focus exact rfl);intro _
        apply OKx_nilK
        refine OKd_step3 (S := [0, 1, 2, 3, 5, 6, 7, 10, 11, 12]) (i1 := 4) (S1 := [0, 1, 2, 3, 4, 5, 6, 7, 10, 11, 12]) (i2 := 8) (S2 := [0, 1, 2, 3, 5, 6, 7, 8, 10, 11, 12]) (i3 := 13) (S3 := [0, 1, 2, 3, 5, 6, 7, 10, 11, 12, 13]) (.inr (Ent.pick [4] rfl)) (by kernel_rfl) (by kernel_rfl) (by kernel_rfl) (by kernel_rfl) rfl rfl rfl ?_ ?_ ?_
        · refine OKx_append1 1 0 rfl rfl rfl rfl rfl (by omega) (by omega) ?_; intro gA cA
          apply OKx_nilK
          refine OKd_pure (S := [0, 1, 2, 3, 4, 5, 6, 7, 10, 11, 12]) (i := 15) (S1 := [0, 1, 2, 3, 4, 5, 6, 7, 10, 11, 12, 15]) (by kernel_rfl) (by kernel_rfl) (by kernel_rfl) rfl ?_
          apply OKx_fldO; (focus ((conv=>lhs;whnf)<;>exact rfl)); (focus exact rfl)
          apply OKx_nilK
          refine OKd_step2 (S := [0, 1, 2, 3, 4, 5, 6, 7, 10, 11, 12, 15]) (i1 := 8) (S1 := [0, 1, 2, 3, 4, 5, 6, 7, 8, 10, 11, 12, 15]) (i2 := 13) (S2 := [0, 1, 2, 3, 4, 5, 6, 7, 10, 11, 12, 13, 15]) (.inr (Ent.pick [4] rfl)) (by kernel_rfl) (by kernel_rfl) (by kernel_rfl) rfl rfl ?_ ?_
          · apply OKx_slit1; (focus ((conv=>lhs;whnf)<;>exact rfl)); (focus exact rfl);intro _
            apply OKx_nilK
            refine OKd_step2 (S := [0, 1, 2, 3, 4, 5, 6, 7, 8, 10, 11, 12, 15]) (i1 := 9) (S1 := [0, 1, 2, 3, 4, 5, 6, 7, 8, 9, 10, 11, 12, 15]) (i2 := 13) (S2 := [0, 1, 2, 3, 4, 5, 6, 7, 8, 10, 11, 12, 13, 15]) (.inr (Ent.pick [5] rfl)) (by kernel_rfl) (by kernel_rfl) (by kernel_rfl) rfl rfl ?_ ?_
            · refine OKx_append1 3 0 rfl rfl rfl rfl rfl (by omega) (by omega) ?_; intro gB cB
              apply OKx_nilK
              refine OKd_step1 (S := [0, 1, 2, 3, 4, 5, 6, 7, 8, 9, 10, 11, 12, 15]) (i1 := 13) (S1 := [0, 1, 2, 3, 4, 5, 6, 7, 8, 9, 10, 11, 12, 13, 15]) (.inr (Ent.pick [5] rfl)) (by kernel_rfl) (by kernel_rfl) rfl ?_
              · apply OKx_slit1; (focus ((conv=>lhs;whnf)<;>exact rfl)); (focus exact rfl);intro _
                apply OKx_nilK
                refine OKd_step1 (S := [0, 1, 2, 3, 4, 5, 6, 7, 8, 9, 10, 11, 12, 13, 15]) (i1 := 14) (S1 := [0, 1, 2, 3, 4, 5, 6, 7, 8, 9, 10, 11, 12, 13, 14, 15]) (.inr (Ent.pick [6] rfl)) (by kernel_rfl) (by kernel_rfl) rfl ?_
                · refine OKx_append1 5 0 rfl rfl rfl rfl rfl (by omega) (by omega) ?_; intro gC cC
                  apply OKx_nilK
                  exact hS0 _ _ ⟨by (repeat' (first | refine agree_upd rfl ?_ | exact agree_over | exact agree_refl _ _ | refine agree_over2 rfl ?_)), _, Ent.sub ((((List.Sublist.refl _).cons _).cons _).cons _), gA, cA, gB, cB, gC, cC, _, _, _, rfl, rfl, rfl, rfl, rfl, hx9, hy9, fun _ _ h => h⟩
            · apply OKx_slit1; (focus ((conv=>lhs;whnf)<;>exact rfl)); (focus exact rfl);intro _
              apply OKx_nilK
              refine OKd_step1 (S := [0, 1, 2, 3, 4, 5, 6, 7, 8, 10, 11, 12, 13, 15]) (i1 := 9) (S1 := [0, 1, 2, 3, 4, 5, 6, 7, 8, 9, 10, 11, 12, 13, 15]) (.inr (Ent.pick [6] rfl)) (by kernel_rfl) (by kernel_rfl) rfl ?_
              · refine OKx_append1 4 1 rfl rfl rfl rfl rfl (by omega) (by omega) ?_; intro gB cB
                apply OKx_nilK
                refine OKd_step1 (S := [0, 1, 2, 3, 4, 5, 6, 7, 8, 9, 10, 11, 12, 13, 15]) (i1 := 14) (S1 := [0, 1, 2, 3, 4, 5, 6, 7, 8, 9, 10, 11, 12, 13, 14, 15]) (.inr (Ent.pick [6] rfl)) (by kernel_rfl) (by kernel_rfl) rfl ?_
                · refine OKx_append1 5 0 rfl rfl rfl rfl rfl (by omega) (by omega) ?_; intro gC cC
                  apply OKx_nilK
                  exact hS0 _ _ ⟨by (repeat' (first | refine agree_upd rfl ?_ | exact agree_over | exact agree_refl _ _ | refine agree_over2 rfl ?_)), _, Ent.sub ((((List.Sublist.refl _).cons _).cons _).cons _), gA, cA, gB, cB, gC, cC, _, _, _, rfl, rfl, rfl, rfl, rfl, hx9, hy9, fun _ _ h => h⟩
          · apply OKx_slit1; (focus ((conv=>lhs;whnf)<;>exact rfl)); (focus exact rfl);intro _
            apply OKx_nilK
            refine OKd_step1 (S := [0, 1, 2, 3, 4, 5, 6, 7, 10, 11, 12, 13, 15]) (i1 := 8) (S1 := [0, 1, 2, 3, 4, 5, 6, 7, 8, 10, 11, 12, 13, 15]) (.inr (Ent.pick [5] rfl)) (by kernel_rfl) (by kernel_rfl) rfl ?_
            · apply OKx_slit1; (focus ((conv=>lhs;whnf)<;>exact rfl)); (focus exact rfl);intro _
              apply OKx_nilK
              refine OKd_step1 (S := [0, 1, 2, 3, 4, 5, 6, 7, 8, 10, 11, 12, 13, 15]) (i1 := 9) (S1 := [0, 1, 2, 3, 4, 5, 6, 7, 8, 9, 10, 11, 12, 13, 15]) (.inr (Ent.pick [6] rfl)) (by kernel_rfl) (by kernel_rfl) rfl ?_
              · refine OKx_append1 4 0 rfl rfl rfl rfl rfl (by omega) (by omega) ?_; intro gB cB
                apply OKx_nilK
                refine OKd_step1 (S := [0, 1, 2, 3, 4, 5, 6, 7, 8, 9, 10, 11, 12, 13, 15]) (i1 := 14) (S1 := [0, 1, 2, 3, 4, 5, 6, 7, 8, 9, 10, 11, 12, 13, 14, 15]) (.inr (Ent.pick [6] rfl)) (by kernel_rfl) (by kernel_rfl) rfl ?_
                · refine OKx_append1 5 1 rfl rfl rfl rfl rfl (by omega) (by omega) ?_; intro gC cC
                  apply OKx_nilK
                  exact hS0 _ _ ⟨by (repeat' (first | refine agree_upd rfl ?_ | exact agree_over | exact agree_refl _ _ | refine agree_over2 rfl ?_)), _, Ent.sub ((((List.Sublist.refl _).cons _).cons _).cons _), gA, cA, gB, cB, gC, cC, _, _, _, rfl, rfl, rfl, rfl, rfl, hx9, hy9, fun _ _ h => h⟩
        · apply OKx_slit1; (focus ((conv=>lhs;whnf)<;>exact rfl)); (focus exact rfl);intro _
          apply OKx_nilK
          refine OKd_step2 (S := [0, 1, 2, 3, 5, 6, 7, 8, 10, 11, 12]) (i1 := 4) (S1 := [0, 1, 2, 3, 4, 5, 6, 7, 8, 10, 11, 12]) (i2 := 13) (S2 := [0, 1, 2, 3, 5, 6, 7, 8, 10, 11, 12, 13]) (.inr (Ent.pick [5] rfl)) (by kernel_rfl) (by kernel_rfl) (by kernel_rfl) rfl rfl ?_ ?_
          · refine OKx_append1 2 1 rfl rfl rfl rfl rfl (by omega) (by omega) ?_; intro gA cA
            apply OKx_nilK
            refine OKd_pure (S := [0, 1, 2, 3, 4, 5, 6, 7, 8, 10, 11, 12]) (i := 15) (S1 := [0, 1, 2, 3, 4, 5, 6, 7, 8, 10, 11, 12, 15]) (by kernel_rfl) (by kernel_rfl) (by kernel_rfl) rfl ?_
            apply OKx_fldO; (focus ((conv=>lhs;whnf)<;>exact rfl)); (focus exact rfl)
            apply OKx_nilK
            refine OKd_step2 (S := [0, 1, 2, 3, 4, 5, 6, 7, 8, 10, 11, 12, 15]) (i1 := 9) (S1 := [0, 1, 2, 3, 4, 5, 6, 7, 8, 9, 10, 11, 12, 15]) (i2 := 13) (S2 := [0, 1, 2, 3, 4, 5, 6, 7, 8, 10, 11, 12, 13, 15]) (.inr (Ent.pick [5] rfl)) (by kernel_rfl) (by kernel_rfl) (by kernel_rfl) rfl rfl ?_ ?_
            · refine OKx_append1 3 0 rfl rfl rfl rfl rfl (by omega) (by omega) ?_; intro gB cB
              apply OKx_nilK
              refine OKd_step1 (S := [0, 1, 2, 3, 4, 5, 6, 7, 8, 9, 10, 11, 12, 15]) (i1 := 13) (S1 := [0, 1, 2, 3, 4, 5, 6, 7, 8, 9, 10, 11, 12, 13, 15]) (.inr (Ent.pick [5] rfl)) (by kernel_rfl) (by kernel_rfl) rfl ?_
              · apply OKx_slit1; (focus ((conv=>lhs;whnf)<;>exact rfl)); (focus exact rfl);intro _
                apply OKx_nilK
                refine OKd_step1 (S := [0, 1, 2, 3, 4, 5, 6, 7, 8, 9, 10, 11, 12, 13, 15]) (i1 := 14) (S1 := [0, 1, 2, 3, 4, 5, 6, 7, 8, 9, 10, 11, 12, 13, 14, 15]) (.inr (Ent.pick [6] rfl)) (by kernel_rfl) (by kernel_rfl) rfl ?_
                · refine OKx_append1 5 0 rfl rfl rfl rfl rfl (by omega) (by omega) ?_; intro gC cC
                  apply OKx_nilK
                  exact hS0 _ _ ⟨by (repeat' (first | refine agree_upd rfl ?_ | exact agree_over | exact agree_refl _ _ | refine agree_over2 rfl ?_)), _, Ent.sub ((((List.Sublist.refl _).cons _).cons _).cons _), gA, cA, gB, cB, gC, cC, _, _, _, rfl, rfl, rfl, rfl, rfl, hx9, hy9, fun _ _ h => h⟩
            · apply OKx_slit1; (focus ((conv=>lhs;whnf)<;>exact rfl)); (focus exact rfl);intro _
              apply OKx_nilK
              refine OKd_step1 (S := [0, 1, 2, 3, 4, 5, 6, 7, 8, 10, 11, 12, 13, 15]) (i1 := 9) (S1 := [0, 1, 2, 3, 4, 5, 6, 7, 8, 9, 10, 11, 12, 13, 15]) (.inr (Ent.pick [6] rfl)) (by kernel_rfl) (by kernel_rfl) rfl ?_
              · refine OKx_append1 4 1 rfl rfl rfl rfl rfl (by omega) (by omega) ?_; intro gB cB
                apply OKx_nilK
                refine OKd_step1 (S := [0, 1, 2, 3, 4, 5, 6, 7, 8, 9, 10, 11, 12, 13, 15]) (i1 := 14) (S1 := [0, 1, 2, 3, 4, 5, 6, 7, 8, 9, 10, 11, 12, 13, 14, 15]) (.inr (Ent.pick [6] rfl)) (by kernel_rfl) (by kernel_rfl) rfl ?_
                · refine OKx_append1 5 0 rfl rfl rfl rfl rfl (by omega) (by omega) ?_; intro gC cC
                  apply OKx_nilK
                  exact hS0 _ _ ⟨by (repeat' (first | refine agree_upd rfl ?_ | exact agree_over | exact agree_refl _ _ | refine agree_over2 rfl ?_)), _, Ent.sub ((((List.Sublist.refl _).cons _).cons _).cons _), gA, cA, gB, cB, gC, cC, _, _, _, rfl, rfl, rfl, rfl, rfl, hx9, hy9, fun _ _ h => h⟩
          · apply OKx_slit1; (focus ((conv=>lhs;whnf)<;>exact rfl)); (focus exact rfl);intro _
            apply OKx_nilK
            refine OKd_step1 (S := [0, 1, 2, 3, 5, 6, 7, 8, 10, 11, 12, 13]) (i1 := 4) (S1 := [0, 1, 2, 3, 4, 5, 6, 7, 8, 10, 11, 12, 13]) (.inr (Ent.pick [6] rfl)) (by kernel_rfl) (by kernel_rfl) rfl ?_
            · refine OKx_append1 3 2 rfl rfl rfl rfl rfl (by omega) (by omega) ?_; intro gA cA
              apply OKx_nilK
              refine OKd_pure (S := [0, 1, 2, 3, 4, 5, 6, 7, 8, 10, 11, 12, 13]) (i := 15) (S1 := [0, 1, 2, 3, 4, 5, 6, 7, 8, 10, 11, 12, 13, 15]) (by kernel_rfl) (by kernel_rfl) (by kernel_rfl) rfl ?_
              apply OKx_fldO; (focus ((conv=>lhs;whnf)<;>exact rfl)); (focus exact rfl)
              apply OKx_nilK
              refine OKd_step1 (S := [0, 1, 2, 3, 4, 5, 6, 7, 8, 10, 11, 12, 13, 15]) (i1 := 9) (S1 := [0, 1, 2, 3, 4, 5, 6, 7, 8, 9, 10, 11, 12, 13, 15]) (.inr (Ent.pick [6] rfl)) (by kernel_rfl) (by kernel_rfl) rfl ?_
              · refine OKx_append1 4 1 rfl rfl rfl rfl rfl (by omega) (by omega) ?_; intro gB cB
                apply OKx_nilK
                refine OKd_step1 (S := [0, 1, 2, 3, 4, 5, 6, 7, 8, 9, 10, 11, 12, 13, 15]) (i1 := 14) (S1 := [0, 1, 2, 3, 4, 5, 6, 7, 8, 9, 10, 11, 12, 13, 14, 15]) (.inr (Ent.pick [6] rfl)) (by kernel_rfl) (by kernel_rfl) rfl ?_
                · refine OKx_append1 5 0 rfl rfl rfl rfl rfl (by omega) (by omega) ?_; intro gC cC
                  apply OKx_nilK
                  exact hS0 _ _ ⟨by (repeat' (first | refine agree_upd rfl ?_ | exact agree_over | exact agree_refl _ _ | refine agree_over2 rfl ?_)), _, Ent.sub ((((List.Sublist.refl _).cons _).cons _).cons _), gA, cA, gB, cB, gC, cC, _, _, _, rfl, rfl, rfl, rfl, rfl, hx9, hy9, fun _ _ h => h⟩
        · apply OKx_slit1; (focus ((conv=>lhs;whnf)<;>exact rfl)); (focus exact rfl);intro _
          apply OKx_nilK
          refine OKd_step2 (S := [0, 1, 2, 3, 5, 6, 7, 10, 11, 12, 13]) (i1 := 4) (S1 := [0, 1, 2, 3, 4, 5, 6, 7, 10, 11, 12, 13]) (i2 := 8) (S2 := [0, 1, 2, 3, 5, 6, 7, 8, 10, 11, 12, 13]) (.inr (Ent.pick [5] rfl)) (by kernel_rfl) (by kernel_rfl) (by kernel_rfl) rfl rfl ?_ ?_
          · refine OKx_append1 2 1 rfl rfl rfl rfl rfl (by omega) (by omega) ?_; intro gA cA
            apply OKx_nilK
            refine OKd_pure (S := [0, 1, 2, 3, 4, 5, 6, 7, 10, 11, 12, 13]) (i := 15) (S1 := [0, 1, 2, 3, 4, 5, 6, 7, 10, 11, 12, 13, 15]) (by kernel_rfl) (by kernel_rfl) (by kernel_rfl) rfl ?_
            apply OKx_fldO; (focus ((conv=>lhs;whnf)<;>exact rfl)); (focus exact rfl)
            apply OKx_nilK
            refine OKd_step1 (S := [0, 1, 2, 3, 4, 5, 6, 7, 10, 11, 12, 13, 15]) (i1 := 8) (S1 := [0, 1, 2, 3, 4, 5, 6, 7, 8, 10, 11, 12, 13, 15]) (.inr (Ent.pick [5] rfl)) (by kernel_rfl) (by kernel_rfl) rfl ?_
            · apply OKx_slit1; (focus ((conv=>lhs;whnf)<;>exact rfl)); (focus exact rfl);intro _
              apply OKx_nilK
              refine OKd_step1 (S := [0, 1, 2, 3, 4, 5, 6, 7, 8, 10, 11, 12, 13, 15]) (i1 := 9) (S1 := [0, 1, 2, 3, 4, 5, 6, 7, 8, 9, 10, 11, 12, 13, 15]) (.inr (Ent.pick [6] rfl)) (by kernel_rfl) (by kernel_rfl) rfl ?_
              · refine OKx_append1 4 0 rfl rfl rfl rfl rfl (by omega) (by omega) ?_; intro gB cB
                apply OKx_nilK
                refine OKd_step1 (S := [0, 1, 2, 3, 4, 5, 6, 7, 8, 9, 10, 11, 12, 13, 15]) (i1 := 14) (S1 := [0, 1, 2, 3, 4, 5, 6, 7, 8, 9, 10, 11, 12, 13, 14, 15]) (.inr (Ent.pick [6] rfl)) (by kernel_rfl) (by kernel_rfl) rfl ?_
                · refine OKx_append1 5 1 rfl rfl rfl rfl rfl (by omega) (by omega) ?_; intro gC cC
                  apply OKx_nilK
                  exact hS0 _ _ ⟨by (repeat' (first | refine agree_upd rfl ?_ | exact agree_over | exact agree_refl _ _ | refine agree_over2 rfl ?_)), _, Ent.sub ((((List.Sublist.refl _).cons _).cons _).cons _), gA, cA, gB, cB, gC, cC, _, _, _, rfl, rfl, rfl, rfl, rfl, hx9, hy9, fun _ _ h => h⟩
          · apply OKx_slit1; (focus ((conv=>lhs;whnf)<;>exact rfl)); (focus exact rfl);intro _
            apply OKx_nilK
            refine OKd_step1 (S := [0, 1, 2, 3, 5, 6, 7, 8, 10, 11, 12, 13]) (i1 := 4) (S1 := [0, 1, 2, 3, 4, 5, 6, 7, 8, 10, 11, 12, 13]) (.inr (Ent.pick [6] rfl)) (by kernel_rfl) (by kernel_rfl) rfl ?_
            · refine OKx_append1 3 2 rfl rfl rfl rfl rfl (by omega) (by omega) ?_; intro gA cA
              apply OKx_nilK
              refine OKd_pure (S := [0, 1, 2, 3, 4, 5, 6, 7, 8, 10, 11, 12, 13]) (i := 15) (S1 := [0, 1, 2, 3, 4, 5, 6, 7, 8, 10, 11, 12, 13, 15]) (by kernel_rfl) (by kernel_rfl) (by kernel_rfl) rfl ?_
              apply OKx_fldO; (focus ((conv=>lhs;whnf)<;>exact rfl)); (focus exact rfl)
              apply OKx_nilK
              refine OKd_step1 (S := [0, 1, 2, 3, 4, 5, 6, 7, 8, 10, 11, 12, 13, 15]) (i1 := 9) (S1 := [0, 1, 2, 3, 4, 5, 6, 7, 8, 9, 10, 11, 12, 13, 15]) (.inr (Ent.pick [6] rfl)) (by kernel_rfl) (by kernel_rfl) rfl ?_
              · refine OKx_append1 4 0 rfl rfl rfl rfl rfl (by omega) (by omega) ?_; intro gB cB
                apply OKx_nilK
                refine OKd_step1 (S := [0, 1, 2, 3, 4, 5, 6, 7, 8, 9, 10, 11, 12, 13, 15]) (i1 := 14) (S1 := [0, 1, 2, 3, 4, 5, 6, 7, 8, 9, 10, 11, 12, 13, 14, 15]) (.inr (Ent.pick [6] rfl)) (by kernel_rfl) (by kernel_rfl) rfl ?_
                · refine OKx_append1 5 1 rfl rfl rfl rfl rfl (by omega) (by omega) ?_; intro gC cC
                  apply OKx_nilK
                  exact hS0 _ _ ⟨by (repeat' (first | refine agree_upd rfl ?_ | exact agree_over | exact agree_refl _ _ | refine agree_over2 rfl ?_)), _, Ent.sub ((((List.Sublist.refl _).cons _).cons _).cons _), gA, cA, gB, cB, gC, cC, _, _, _, rfl, rfl, rfl, rfl, rfl, hx9, hy9, fun _ _ h => h⟩
      · apply OKx_slit1; (focus ((conv=>lhs;whnf)<;>exact rfl)); (focus exact rfl);intro _
        apply OKx_nilK
        refine OKd_step2 (S := [0, 1, 2, 5, 6, 7, 8, 10, 11, 12]) (i1 := 3) (S1 := [0, 1, 2, 3, 5, 6, 7, 8, 10, 11, 12]) (i2 := 13) (S2 := [0, 1, 2, 5, 6, 7, 8, 10, 11, 12, 13]) (.inr (Ent.pick [4] rfl)) (by kernel_rfl) (by kernel_rfl) (by kernel_rfl) rfl rfl ?_ ?_
        · apply OKx_slit1; (focus ((conv=>lhs;whnf)<;>exact rfl)); (focus exact rfl);intro _
          apply OKx_nilK
          refine OKd_step2 (S := [0, 1, 2, 3, 5, 6, 7, 8, 10, 11, 12]) (i1 := 4) (S1 := [0, 1, 2, 3, 4, 5, 6, 7, 8, 10, 11, 12]) (i2 := 13) (S2 := [0, 1, 2, 3, 5, 6, 7, 8, 10, 11, 12, 13]) (.inr (Ent.pick [5] rfl)) (by kernel_rfl) (by kernel_rfl) (by kernel_rfl) rfl rfl ?_ ?_
          · refine OKx_append1 2 0 rfl rfl rfl rfl rfl (by omega) (by omega) ?_; intro gA cA
            apply OKx_nilK
            refine OKd_pure (S := [0, 1, 2, 3, 4, 5, 6, 7, 8, 10, 11, 12]) (i := 15) (S1 := [0, 1, 2, 3, 4, 5, 6, 7, 8, 10, 11, 12, 15]) (by kernel_rfl) (by kernel_rfl) (by kernel_rfl) rfl ?_
            apply OKx_fldO; (focus ((conv=>lhs;whnf)<;>exact rfl)); (focus exact rfl)
            apply OKx_nilK
            refine OKd_step2 (S := [0, 1, 2, 3, 4, 5, 6, 7, 8, 10, 11, 12, 15]) (i1 := 9) (S1 := [0, 1, 2, 3, 4, 5, 6, 7, 8, 9, 10, 11, 12, 15]) (i2 := 13) (S2 := [0, 1, 2, 3, 4, 5, 6, 7, 8, 10, 11, 12, 13, 15]) (.inr (Ent.pick [5] rfl)) (by kernel_rfl) (by kernel_rfl) (by kernel_rfl) rfl rfl ?_ ?_
            · refine OKx_append1 3 1 rfl rfl rfl rfl rfl (by omega) (by omega) ?_; intro gB cB
              apply OKx_nilK
              refine OKd_step1 (S := [0, 1, 2, 3, 4, 5, 6, 7, 8, 9, 10, 11, 12, 15]) (i1 := 13) (S1 := [0, 1, 2, 3, 4, 5, 6, 7, 8, 9, 10, 11, 12, 13, 15]) (.inr (Ent.pick [5] rfl)) (by kernel_rfl) (by kernel_rfl) rfl ?_
              · apply OKx_slit1; (focus ((conv=>lhs;whnf)<;>exact rfl)); (focus exact rfl);intro _
                apply OKx_nilK
                refine OKd_step1 (S := [0, 1, 2, 3, 4, 5, 6, 7, 8, 9, 10, 11, 12, 13, 15]) (i1 := 14) (S1 := [0, 1, 2, 3, 4, 5, 6, 7, 8, 9, 10, 11, 12, 13, 14, 15]) (.inr (Ent.pick [6] rfl)) (by kernel_rfl) (by kernel_rfl) rfl ?_
                · refine OKx_append1 5 0 rfl rfl rfl rfl rfl (by omega) (by omega) ?_; intro gC cC
                  apply OKx_nilK
                  exact hS0 _ _ ⟨by (repeat' (first | refine agree_upd rfl ?_ | exact agree_over | exact agree_refl _ _ | refine agree_over2 rfl ?_)), _, Ent.sub ((((List.Sublist.refl _).cons _).cons _).cons _), gA, cA, gB, cB, gC, cC, _, _, _, rfl, rfl, rfl, rfl, rfl, hx9, hy9, fun _ _ h => h⟩
            · apply OKx_slit1; (focus ((conv=>lhs;whnf)<;>exact rfl)); (focus exact rfl);intro _
              apply OKx_nilK
              refine OKd_step1 (S := [0, 1, 2, 3, 4, 5, 6, 7, 8, 10, 11, 12, 13, 15]) (i1 := 9) (S1 := [0, 1, 2, 3, 4, 5, 6, 7, 8, 9, 10, 11, 12, 13, 15]) (.inr (Ent.pick [6] rfl)) (by kernel_rfl) (by kernel_rfl) rfl ?_
              · refine OKx_append1 4 2 rfl rfl rfl rfl rfl (by omega) (by omega) ?_; intro gB cB
                apply OKx_nilK
                refine OKd_step1 (S := [0, 1, 2, 3, 4, 5, 6, 7, 8, 9, 10, 11, 12, 13, 15]) (i1 := 14) (S1 := [0, 1, 2, 3, 4, 5, 6, 7, 8, 9, 10, 11, 12, 13, 14, 15]) (.inr (Ent.pick [6] rfl)) (by kernel_rfl) (by kernel_rfl) rfl ?_
                · refine OKx_append1 5 0 rfl rfl rfl rfl rfl (by omega) (by omega) ?_; intro gC cC
                  apply OKx_nilK
                  exact hS0 _ _ ⟨by (repeat' (first | refine agree_upd rfl ?_ | exact agree_over | exact agree_refl _ _ | refine agree_over2 rfl ?_)), _, Ent.sub ((((List.Sublist.refl _).cons _).cons _).cons _), gA, cA, gB, cB, gC, cC, _, _, _, rfl, rfl, rfl, rfl, rfl, hx9, hy9, fun _ _ h => h⟩
          · apply OKx_slit1; (focus ((conv=>lhs;whnf)<;>exact rfl)); (focus exact rfl);intro _
            apply OKx_nilK
            refine OKd_step1 (S := [0, 1, 2, 3, 5, 6, 7, 8, 10, 11, 12, 13]) (i1 := 4) (S1 := [0, 1, 2, 3, 4, 5, 6, 7, 8, 10, 11, 12, 13]) (.inr (Ent.pick [6] rfl)) (by kernel_rfl) (by kernel_rfl) rfl ?_
            · refine OKx_append1 3 1 rfl rfl rfl rfl rfl (by omega) (by omega) ?_; intro gA cA
              apply OKx_nilK
              refine OKd_pure (S := [0, 1, 2, 3, 4, 5, 6, 7, 8, 10, 11, 12, 13]) (i := 15) (S1 := [0, 1, 2, 3, 4, 5, 6, 7, 8, 10, 11, 12, 13, 15]) (by kernel_rfl) (by kernel_rfl) (by kernel_rfl) rfl ?_
              apply OKx_fldO; (focus ((conv=>lhs;whnf)<;>exact rfl)); (focus exact rfl)
              apply OKx_nilK
              refine OKd_step1 (S := [0, 1, 2, 3, 4, 5, 6, 7, 8, 10, 11, 12, 13, 15]) (i1 := 9) (S1 := [0, 1, 2, 3, 4, 5, 6, 7, 8, 9, 10, 11, 12, 13, 15]) (.inr (Ent.pick [6] rfl)) (by kernel_rfl) (by kernel_rfl) rfl ?_
              · refine OKx_append1 4 2 rfl rfl rfl rfl rfl (by omega) (by omega) ?_; intro gB cB
                apply OKx_nilK
                refine OKd_step1 (S := [0, 1, 2, 3, 4, 5, 6, 7, 8, 9, 10, 11, 12, 13, 15]) (i1 := 14) (S1 := [0, 1, 2, 3, 4, 5, 6, 7, 8, 9, 10, 11, 12, 13, 14, 15]) (.inr (Ent.pick [6] rfl)) (by kernel_rfl) (by kernel_rfl) rfl ?_
                · refine OKx_append1 5 0 rfl rfl rfl rfl rfl (by omega) (by omega) ?_; intro gC cC
                  apply OKx_nilK
                  exact hS0 _ _ ⟨by (repeat' (first | refine agree_upd rfl ?_ | exact agree_over | exact agree_refl _ _ | refine agree_over2 rfl ?_)), _, Ent.sub ((((List.Sublist.refl _).cons _).cons _).cons _), gA, cA, gB, cB, gC, cC, _, _, _, rfl, rfl, rfl, rfl, rfl, hx9, hy9, fun _ _ h => h⟩
        · apply OKx_slit1; (focus ((conv=>lhs;whnf)<;>exact rfl)); (focus exact rfl);intro _
          apply OKx_nilK
          refine OKd_step1 (S := [0, 1, 2, 5, 6, 7, 8, 10, 11, 12, 13]) (i1 := 3) (S1 := [0, 1, 2, 3, 5, 6, 7, 8, 10, 11, 12, 13]) (.inr (Ent.pick [5] rfl)) (by kernel_rfl) (by kernel_rfl) rfl ?_
          · apply OKx_slit1; (focus ((conv=>lhs;whnf)<;>exact rfl)); (focus exact rfl);intro _
            apply OKx_nilK
            refine OKd_step1 (S := [0, 1, 2, 3, 5, 6, 7, 8, 10, 11, 12, 13]) (i1 := 4) (S1 := [0, 1, 2, 3, 4, 5, 6, 7, 8, 10, 11, 12, 13]) (.inr (Ent.pick [6] rfl)) (by kernel_rfl) (by kernel_rfl) rfl ?_
            · refine OKx_append1 3 0 rfl rfl rfl rfl rfl (by omega) (by omega) ?_; intro gA cA
              apply OKx_nilK
              refine OKd_pure (S := [0, 1, 2, 3, 4, 5, 6, 7, 8, 10, 11, 12, 13]) (i := 15) (S1 := [0, 1, 2, 3, 4, 5, 6, 7, 8, 10, 11, 12, 13, 15]) (by kernel_rfl) (by kernel_rfl) (by kernel_rfl) rfl ?_
              apply OKx_fldO; (focus ((conv=>lhs;whnf)<;>exact rfl)); (focus exact rfl)
              apply OKx_nilK
              refine OKd_step1 (S := [0, 1, 2, 3, 4, 5, 6, 7, 8, 10, 11, 12, 13, 15]) (i1 := 9) (S1 := [0, 1, 2, 3, 4, 5, 6, 7, 8, 9, 10, 11, 12, 13, 15]) (.inr (Ent.pick [6] rfl)) (by kernel_rfl) (by kernel_rfl) rfl ?_
              · refine OKx_append1 4 2 rfl rfl rfl rfl rfl (by omega) (by omega) ?_; intro gB cB
                apply OKx_nilK
                refine OKd_step1 (S := [0, 1, 2, 3, 4, 5, 6, 7, 8, 9, 10, 11, 12, 13, 15]) (i1 := 14) (S1 := [0, 1, 2, 3, 4, 5, 6, 7, 8, 9, 10, 11, 12, 13, 14, 15]) (.inr (Ent.pick [6] rfl)) (by kernel_rfl) (by kernel_rfl) rfl ?_
                · refine OKx_append1 5 1 rfl rfl rfl rfl rfl (by omega) (by omega) ?_; intro gC cC
                  apply OKx_nilK
                  exact hS0 _ _ ⟨by (repeat' (first | refine agree_upd rfl ?_ | exact agree_over | exact agree_refl _ _ | refine agree_over2 rfl ?_)), _, Ent.sub ((((List.Sublist.refl _).cons _).cons _).cons _), gA, cA, gB, cB, gC, cC, _, _, _, rfl, rfl, rfl, rfl, rfl, hx9, hy9, fun _ _ h => h⟩
      · apply OKx_slit1; (focus ((conv=>lhs;whnf)<;>exact rfl)); (focus exact rfl);intro _
        apply OKx_nilK
        refine OKd_step2 (S := [0, 1, 2, 5, 6, 7, 10, 11, 12, 13]) (i1 := 3) (S1 := [0, 1, 2, 3, 5, 6, 7, 10, 11, 12, 13]) (i2 := 8) (S2 := [0, 1, 2, 5, 6, 7, 8, 10, 11, 12, 13]) (.inr (Ent.pick [4] rfl)) (by kernel_rfl) (by kernel_rfl) (by kernel_rfl) rfl rfl ?_ ?_
        · apply OKx_slit1; (focus ((conv=>lhs;whnf)<;>exact rfl)); (focus exact rfl);intro _
          apply OKx_nilK
          refine OKd_step2 (S := [0, 1, 2, 3, 5, 6, 7, 10, 11, 12, 13]) (i1 := 4) (S1 := [0, 1, 2, 3, 4, 5, 6, 7, 10, 11, 12, 13]) (i2 := 8) (S2 := [0, 1, 2, 3, 5, 6, 7, 8, 10, 11, 12, 13]) (.inr (Ent.pick [5] rfl)) (by kernel_rfl) (by kernel_rfl) (by kernel_rfl) rfl rfl ?_ ?_
          · refine OKx_append1 2 0 rfl rfl rfl rfl rfl (by omega) (by omega) ?_; intro gA cA
            apply OKx_nilK
            refine OKd_pure (S := [0, 1, 2, 3, 4, 5, 6, 7, 10, 11, 12, 13]) (i := 15) (S1 := [0, 1, 2, 3, 4, 5, 6, 7, 10, 11, 12, 13, 15]) (by kernel_rfl) (by kernel_rfl) (by kernel_rfl) rfl ?_
            apply OKx_fldO; (focus ((conv=>lhs;whnf)<;>exact rfl)); (focus exact rfl)
            apply OKx_nilK
            refine OKd_step1 (S := [0, 1, 2, 3, 4, 5, 6, 7, 10, 11, 12, 13, 15]) (i1 := 8) (S1 := [0, 1, 2, 3, 4, 5, 6, 7, 8, 10, 11, 12, 13, 15]) (.inr (Ent.pick [5] rfl)) (by kernel_rfl) (by kernel_rfl) rfl ?_
            · apply OKx_slit1; (focus ((conv=>lhs;whnf)<;>exact rfl)); (focus exact rfl);intro _
              apply OKx_nilK
              refine OKd_step1 (S := [0, 1, 2, 3, 4, 5, 6, 7, 8, 10, 11, 12, 13, 15]) (i1 := 9) (S1 := [0, 1, 2, 3, 4, 5, 6, 7, 8, 9, 10, 11, 12, 13, 15]) (.inr (Ent.pick [6] rfl)) (by kernel_rfl) (by kernel_rfl) rfl ?_
              · refine OKx_append1 4 0 rfl rfl rfl rfl rfl (by omega) (by omega) ?_; intro gB cB
                apply OKx_nilK
                refine OKd_step1 (S := [0, 1, 2, 3, 4, 5, 6, 7, 8, 9, 10, 11, 12, 13, 15]) (i1 := 14) (S1 := [0, 1, 2, 3, 4, 5, 6, 7, 8, 9, 10, 11, 12, 13, 14, 15]) (.inr (Ent.pick [6] rfl)) (by kernel_rfl) (by kernel_rfl) rfl ?_
                · refine OKx_append1 5 2 rfl rfl rfl rfl rfl (by omega) (by omega) ?_; intro gC cC
                  apply OKx_nilK
                  exact hS0 _ _ ⟨by (repeat' (first | refine agree_upd rfl ?_ | exact agree_over | exact agree_refl _ _ | refine agree_over2 rfl ?_)), _, Ent.sub ((((List.Sublist.refl _).cons _).cons _).cons _), gA, cA, gB, cB, gC, cC, _, _, _, rfl, rfl, rfl, rfl, rfl, hx9, hy9, fun _ _ h => h⟩
          · apply OKx_slit1; (focus ((conv=>lhs;whnf)<;>exact rfl)); (focus exact rfl);intro _
            apply OKx_nilK
            refine OKd_step1 (S := [0, 1, 2, 3, 5, 6, 7, 8, 10, 11, 12, 13]) (i1 := 4) (S1 := [0, 1, 2, 3, 4, 5, 6, 7, 8, 10, 11, 12, 13]) (.inr (Ent.pick [6] rfl)) (by kernel_rfl) (by kernel_rfl) rfl ?_
            · refine OKx_append1 3 1 rfl rfl rfl rfl rfl (by omega) (by omega) ?_; intro gA cA
              apply OKx_nilK
              refine OKd_pure (S := [0, 1, 2, 3, 4, 5, 6, 7, 8, 10, 11, 12, 13]) (i := 15) (S1 := [0, 1, 2, 3, 4, 5, 6, 7, 8, 10, 11, 12, 13, 15]) (by kernel_rfl) (by kernel_rfl) (by kernel_rfl) rfl ?_
              apply OKx_fldO; (focus ((conv=>lhs;whnf)<;>exact rfl)); (focus exact rfl)
              apply OKx_nilK
              refine OKd_step1 (S := [0, 1, 2, 3, 4, 5, 6, 7, 8, 10, 11, 12, 13, 15]) (i1 := 9) (S1 := [0, 1, 2, 3, 4, 5, 6, 7, 8, 9, 10, 11, 12, 13, 15]) (.inr (Ent.pick [6] rfl)) (by kernel_rfl) (by kernel_rfl) rfl ?_
              · refine OKx_append1 4 0 rfl rfl rfl rfl rfl (by omega) (by omega) ?_; intro gB cB
                apply OKx_nilK
                refine OKd_step1 (S := [0, 1, 2, 3, 4, 5, 6, 7, 8, 9, 10, 11, 12, 13, 15]) (i1 := 14) (S1 := [0, 1, 2, 3, 4, 5, 6, 7, 8, 9, 10, 11, 12, 13, 14, 15]) (.inr (Ent.pick [6] rfl)) (by kernel_rfl) (by kernel_rfl) rfl ?_
                · refine OKx_append1 5 2 rfl rfl rfl rfl rfl (by omega) (by omega) ?_; intro gC cC
                  apply OKx_nilK
                  exact hS0 _ _ ⟨by (repeat' (first | refine agree_upd rfl ?_ | exact agree_over | exact agree_refl _ _ | refine agree_over2 rfl ?_)), _, Ent.sub ((((List.Sublist.refl _).cons _).cons _).cons _), gA, cA, gB, cB, gC, cC, _, _, _, rfl, rfl, rfl, rfl, rfl, hx9, hy9, fun _ _ h => h⟩
        · apply OKx_slit1; (focus ((conv=>lhs;whnf)<;>exact rfl)); (focus exact rfl);intro _
          apply OKx_nilK
          refine OKd_step1 (S := [0, 1, 2, 5, 6, 7, 8, 10, 11, 12, 13]) (i1 := 3) (S1 := [0, 1, 2, 3, 5, 6, 7, 8, 10, 11, 12, 13]) (.inr (Ent.pick [5] rfl)) (by kernel_rfl) (by kernel_rfl) rfl ?_
          · apply OKx_slit1; (focus ((conv=>lhs;whnf)<;>exact rfl)); (focus exact rfl);intro _
            apply OKx_nilK
            refine OKd_step1 (S := [0, 1, 2, 3, 5, 6, 7, 8, 10, 11, 12, 13]) (i1 := 4) (S1 := [0, 1, 2, 3, 4, 5, 6, 7, 8, 10, 11, 12, 13]) (.inr (Ent.pick [6] rfl)) (by kernel_rfl) (by kernel_rfl) rfl ?_
            · refine OKx_append1 3 0 rfl rfl rfl rfl rfl (by omega) (by omega) ?_; intro gA cA
              apply OKx_nilK
              refine OKd_pure (S := [0, 1, 2, 3, 4, 5, 6, 7, 8, 10, 11, 12, 13]) (i := 15) (S1 := [0, 1, 2, 3, 4, 5, 6, 7, 8, 10, 11, 12, 13, 15]) (by kernel_rfl) (by kernel_rfl) (by kernel_rfl) rfl ?_
              apply OKx_fldO; (focus ((conv=>lhs;whnf)<;>exact rfl)); (focus exact rfl)
              apply OKx_nilK
              refine OKd_step1 (S := [0, 1, 2, 3, 4, 5, 6, 7, 8, 10, 11, 12, 13, 15]) (i1 := 9) (S1 := [0, 1, 2, 3, 4, 5, 6, 7, 8, 9, 10, 11, 12, 13, 15]) (.inr (Ent.pick [6] rfl)) (by kernel_rfl) (by kernel_rfl) rfl ?_
              · refine OKx_append1 4 1 rfl rfl rfl rfl rfl (by omega) (by omega) ?_; intro gB cB
                apply OKx_nilK
                refine OKd_step1 (S := [0, 1, 2, 3, 4, 5, 6, 7, 8, 9, 10, 11, 12, 13, 15]) (i1 := 14) (S1 := [0, 1, 2, 3, 4, 5, 6, 7, 8, 9, 10, 11, 12, 13, 14, 15]) (.inr (Ent.pick [6] rfl)) (by kernel_rfl) (by kernel_rfl) rfl ?_
                · refine OKx_append1 5 2 rfl rfl rfl rfl rfl (by omega) (by omega) ?_; intro gC cC
                  apply OKx_nilK
                  exact hS0 _ _ ⟨by (repeat' (first | refine agree_upd rfl ?_ | exact agree_over | exact agree_refl _ _ | refine agree_over2 rfl ?_)), _, Ent.sub ((((List.Sublist.refl _).cons _).cons _).cons _), gA, cA, gB, cB, gC, cC, _, _, _, rfl, rfl, rfl, rfl, rfl, hx9, hy9, fun _ _ h => h⟩
  · skip
    rw [if_neg he] at hw
    have hx9 := hxx true (decide_eq_true he).symm
    rw [← hw] at he
    repeat' (first|(apply OK_seq)|(apply thenQ_n)|(apply OK_region)|(apply OKx_gl; refine OKx_ldR rfl (by assumption) ?_; rw [← hw])|(apply OKx_gn; apply OKx_sneq;exact rfl;exact rfl; all_goals (intro hs9; first | (exfalso; exact he hs9) | skip))|(apply OKx_nilK)|(apply OK_block)|(apply blockQ_n)|(apply blockQ_s)|(apply thenQ_e)|(apply blockQ_e;exact rfl)|(apply thenQ_r)|(apply blockQ_r)|(apply OK_condT;exact rfl)|(apply OK_condF;exact rfl)|(apply OK_skip)|(apply OK_exit)|(apply OK_ret)|(apply OKx_move;(conv=>lhs;whnf)<;>exact rfl)|(apply OKx_assign;(conv=>lhs;whnf)<;>exact rfl)|(apply OKx_ldB;exact rfl;(first | exact at0|exact at1|exact at2|exact at3|exact at4|exact at5|exact at6|exact at7);exact rfl)|(apply OKx_ldR;(conv=>lhs;whnf)<;>exact rfl;(with_reducible assumption))|(apply OKx_ldI;exact rfl;(first | exact at0|exact at1|exact at2|exact at3|exact at4|exact at5|exact at6|exact at7);omega)|(apply OKx_len;exact rfl)|(apply OKx_lenR;(conv=>lhs;whnf)<;>exact rfl;(with_reducible assumption))|(apply OKx_lenR2;(conv=>lhs;whnf)<;>exact rfl;(with_reducible assumption))|(apply OKx_lenO;(conv=>lhs;whnf)<;>exact rfl;(first | exact at0|exact at1|exact at2|exact at3|exact at4|exact at5|exact at6|exact at7))|(apply OKx_lss;exact rfl;exact rfl;all_goals (intro _; try (exfalso;omega)))|(apply OKx_gtr;exact rfl;exact rfl;all_goals (intro _; try (exfalso;omega)))|(apply OKx_neq;exact rfl;exact rfl;all_goals (intro _; try (exfalso;omega)))|(apply OKx_sneq;exact rfl;exact rfl; all_goals intro _)|(apply OKx_idxO;exact rfl;exact rfl;omega)|(apply OKx_idxR;(conv=>lhs;whnf)<;>exact rfl;(with_reducible assumption);exact rfl;omega;intro _ _)|(apply OKx_idxOz;exact rfl;exact rfl;omega;omega)|(apply OKx_idxRz;(conv=>lhs;whnf)<;>exact rfl;(with_reducible assumption);exact rfl;omega;omega;intro _ _)|(apply OKx_fldO;exact rfl;exact rfl)|(apply OKx_fldR;(conv=>lhs;whnf)<;>exact rfl;(with_reducible assumption); decide;intro _ _)|(apply OKx_inc;exact rfl;exact rfl;omega)|(apply OKx_addN;exact rfl;exact rfl;omega)|(apply OKx_add;exact rfl;exact rfl;omega;omega)|(apply OKx_notT;exact rfl)|(apply OKx_notF;exact rfl)|(apply OKx_boxA;exact rfl;intro _)|(apply OKx_allocA;intro _)|(apply OKx_ldBA;exact rfl;(first | exact at0|exact at1|exact at2|exact at3|exact at4|exact at5|exact at6|exact at7);exact rfl)|(apply OKx_ldRA;(conv=>lhs;whnf)<;>exact rfl;(with_reducible assumption))|(apply OKx_stB;exact rfl;(conv=>lhs;whnf)<;>exact rfl;exact rfl;exact rfl;(first | exact at0|exact at1|exact at2|exact at3|exact at4|exact at5|exact at6|exact at7);exact rfl;exact rfl;exact rfl)|(apply OKx_slit1;(conv=>lhs;whnf)<;>exact rfl;exact rfl;intro _)|(apply OKx_stBA; kernel_rfl;exact rfl;exact rfl;exact rfl;(first | exact at0|exact at1|exact at2|exact at3|exact at4|exact at5|exact at6|exact at7);exact rfl;exact rfl;exact rfl)|(refine OKa_end (S := []) (by kernel_rfl) ?_))
    rename_i gp
    have hy9 : ∀ w0 w1, Hp w0.heap.size w0 w1 (.row 3 1 (.slice (some ⟨gp, 0, none⟩) 1 1) 1 (ints [t.par.getD k 0]) :: Z) → Ints w1 (.slice (some ⟨gp, 0, none⟩) 1 1) (if k = 0 then [] else [t.par.getD k 0]) := fun w0 w1 hp => by rw [if_neg hk0]; exact hp.ints 0 rfl (by omega)
    refine OK_ent (L' := _ :: _ :: _ :: _ :: _ :: _ :: .row 3 1 (.slice (some ⟨gp, 0, none⟩) 1 1) 1 (ints [t.par.getD k 0]) :: Z) (Ent.perm (List.perm_middle (l₁ := [_, _, _, _, _, _])).symm) ?_
    refine OK_pureAnz4 21 12 5 16 [0, 1, 2, 5, 6, 7, 10, 11, 12] [.box 26 go [.slice na k nc, .slice ea k ec, .slice pa k pc]] [0, 1, 2, 3, 4, 5, 6, 7, 8, 9, 10, 11, 12, 13, 14, 15] [38, 39, 40, 41, 42, 43, 44, 45, 46, 47, 48, 49, 50, 51, 52, 53, 54, 55] 42 47 52 53
      (fun v1 v2 v3 v4 L => ∃ (gA cA gB cB gC cC : Nat) (x y : Value) (Z2 : List Res), v1 = .slice (some ⟨gA, 0, none⟩) (k + 1) cA ∧ v2 = .slice (some ⟨gB, 0, none⟩) (k + 1) cB ∧ v3 = .slice (some ⟨gC, 0, none⟩) (k + 1) cC ∧ v4 = .pointer (some ⟨go, 0, none⟩) ∧
        L = .row 9 1 (.slice (some ⟨gA, 0, none⟩) (k + 1) cA) (k + 1) (strs (ftN t k) ++ [.string (treW t k)]) :: .row 4 1 (.slice (some ⟨gB, 0, none⟩) (k + 1) cB) (k + 1) (bools (ftX t k) ++ [x]) :: .row 27 1 (.slice (some ⟨gC, 0, none⟩) (k + 1) cC) (k + 1) (vs ++ [y]) :: .box 26 go [.slice na k nc, .slice ea k ec, .slice pa k pc] :: .box 26 gr [.slice none 0 0, .slice none 0 0, .slice none 0 0] :: .box 41 gt [pv, nv] :: Z2 ∧
        x = .bool (decide (t.names.getD k ByteArray.empty ≠ ByteArray.empty)) ∧ (∀ w0 w1, Hp w0.heap.size w0 w1 Z2 → Ints w1 y (if k = 0 then [] else [t.par.getD k 0])) ∧ (∀ w0 w1, Hp w0.heap.size w0 w1 Z2 → Hp w0.heap.size w0 w1 Z))
      (id := 13) (by kernel_rfl) (by kernel_rfl) (by kernel_rfl) (by kernel_rfl) (by kernel_rfl) (by kernel_rfl) (Ent.pick [3] rfl) (by ((try simp only [pickO, nthO, List.cons_append, List.nil_append, List.append_nil]) <;> exact rfl)) (by kernel_rfl) ?_ ?_
    · rintro v1 v2 v3 v4 L1 G9 ⟨gA, cA, gB, cB, gC, cC, x, y, Z2, rfl, rfl, rfl, rfl, rfl, rfl, hy, hz2⟩
      repeat' (first|(apply OK_seq)|(apply thenQ_n)|(apply OK_region)|(refine OKd_step1 (S := [0, 1, 2, 3, 4, 5, 6, 7, 8, 9, 10, 11, 12, 13, 14, 15]) (i1 := 16) (S1 := [0, 1, 2, 3, 4, 5, 6, 7, 8, 9, 10, 11, 12, 13, 14, 15, 16]) (.inr (Ent.pick [3] rfl)) (by kernel_rfl) (by kernel_rfl) rfl ?_)|(refine OKd_step1 (S := [0, 1, 2, 3, 4, 5, 6, 7, 8, 9, 10, 11, 12, 13, 14, 15, 16]) (i1 := 17) (S1 := [0, 1, 2, 3, 4, 5, 6, 7, 8, 9, 10, 11, 12, 13, 14, 15, 16, 17]) (.inl (by kernel_rfl)) (by kernel_rfl) (by kernel_rfl) rfl ?_)|(refine OKd_step1 (S := [0, 1, 2, 3, 4, 5, 6, 7, 8, 9, 10, 11, 12, 13, 14, 15, 16, 17]) (i1 := 18) (S1 := [0, 1, 2, 3, 4, 5, 6, 7, 8, 9, 10, 11, 12, 13, 14, 15, 16, 17, 18]) (.inl (by kernel_rfl)) (by kernel_rfl) (by kernel_rfl) rfl ?_)|(refine OKd_step1 (S := [0, 1, 2, 3, 4, 5, 6, 7, 8, 9, 10, 11, 12, 13, 14, 15, 16, 17, 18]) (i1 := 19) (S1 := [0, 1, 2, 3, 4, 5, 6, 7, 8, 9, 10, 11, 12, 13, 14, 15, 16, 17, 18, 19]) (.inl (by kernel_rfl)) (by kernel_rfl) (by kernel_rfl) rfl ?_)|(refine OKd_step1 (S := [0, 1, 2, 3, 4, 5, 6, 7, 8, 9, 10, 11, 12, 13, 14, 15, 16, 17, 18, 19]) (i1 := 20) (S1 := [0, 1, 2, 3, 4, 5, 6, 7, 8, 9, 10, 11, 12, 13, 14, 15, 16, 17, 18, 19, 20]) (.inl (by kernel_rfl)) (by kernel_rfl) (by kernel_rfl) rfl ?_)|(refine OKd_end (S := [0, 1, 2, 3, 4, 5, 6, 7, 8, 9, 10, 11, 12, 13, 14, 15, 16, 17, 18, 19, 20]) (by kernel_rfl) (.inl (by kernel_rfl)) ?_)|(refine OK_rid 13 ?_; refine OK_mix [0, 1, 5, 6, 7, 10, 11, 12] [2] [] [3, 4, 8, 9, 13, 14, 15, 16, 17, 18, 19, 20] [] (id := 13) (by kernel_rfl) (by kernel_rfl) rfl (Ent.nil) (by ((try simp only [pickO, nthO, List.cons_append, List.nil_append]) <;> exact rfl)) (by ((try simp only [pickO, nthO, List.cons_append, List.nil_append]) <;> exact rfl)) (by ((try simp only [pickO]) <;> exact rfl)) (by ((try simp only [pickO, nthO, List.cons_append, List.nil_append]) <;> exact rfl)) ?_)|(apply OKx_nilK)|(apply OK_block)|(apply blockQ_n)|(apply blockQ_s)|(apply thenQ_e)|(apply blockQ_e;exact rfl)|(apply thenQ_r)|(apply blockQ_r)|(apply OK_condT;exact rfl)|(apply OK_condF;exact rfl)|(apply OK_skip)|(apply OK_exit)|(apply OK_ret)|(apply OKx_move;(conv=>lhs;whnf)<;>exact rfl)|(apply OKx_assign;(conv=>lhs;whnf)<;>exact rfl)|(apply OKx_ldB;exact rfl;(first | exact at0|exact at1|exact at2|exact at3|exact at4|exact at5|exact at6|exact at7);exact rfl)|(apply OKx_ldR;(conv=>lhs;whnf)<;>exact rfl;(with_reducible assumption))|(apply OKx_ldI;exact rfl;(first | exact at0|exact at1|exact at2|exact at3|exact at4|exact at5|exact at6|exact at7);omega)|(apply OKx_len;exact rfl)|(apply OKx_lenR;(conv=>lhs;whnf)<;>exact rfl;(with_reducible assumption))|(apply OKx_lenR2;(conv=>lhs;whnf)<;>exact rfl;(with_reducible assumption))|(apply OKx_lenO;(conv=>lhs;whnf)<;>exact rfl;(first | exact at0|exact at1|exact at2|exact at3|exact at4|exact at5|exact at6|exact at7))|(apply OKx_lss;exact rfl;exact rfl;all_goals (intro _; try (exfalso;omega)))|(apply OKx_gtr;exact rfl;exact rfl;all_goals (intro _; try (exfalso;omega)))|(apply OKx_neq;exact rfl;exact rfl;all_goals (intro _; try (exfalso;omega)))|(apply OKx_sneq;exact rfl;exact rfl; all_goals intro _)|(apply OKx_idxO;exact rfl;exact rfl;omega)|(apply OKx_idxR;(conv=>lhs;whnf)<;>exact rfl;(with_reducible assumption);exact rfl;omega;intro _ _)|(apply OKx_idxOz;exact rfl;exact rfl;omega;omega)|(apply OKx_idxRz;(conv=>lhs;whnf)<;>exact rfl;(with_reducible assumption);exact rfl;omega;omega;intro _ _)|(apply OKx_fldO;exact rfl;exact rfl)|(apply OKx_fldR;(conv=>lhs;whnf)<;>exact rfl;(with_reducible assumption); decide;intro _ _)|(apply OKx_inc;exact rfl;exact rfl;omega)|(apply OKx_addN;exact rfl;exact rfl;omega)|(apply OKx_add;exact rfl;exact rfl;omega;omega)|(apply OKx_notT;exact rfl)|(apply OKx_notF;exact rfl)|(apply OKx_boxA;exact rfl;intro _)|(apply OKx_allocA;intro _)|(apply OKx_ldBA;exact rfl;(first | exact at0|exact at1|exact at2|exact at3|exact at4|exact at5|exact at6|exact at7);exact rfl)|(apply OKx_ldRA;(conv=>lhs;whnf)<;>exact rfl;(with_reducible assumption))|(apply OKx_stB;exact rfl;(conv=>lhs;whnf)<;>exact rfl;exact rfl;exact rfl;(first | exact at0|exact at1|exact at2|exact at3|exact at4|exact at5|exact at6|exact at7);exact rfl;exact rfl;exact rfl)|(apply OKx_slit1;(conv=>lhs;whnf)<;>exact rfl;exact rfl;intro _)|(apply OKx_stBA; kernel_rfl;exact rfl;exact rfl;exact rfl;(first | exact at0|exact at1|exact at2|exact at3|exact at4|exact at5|exact at6|exact at7);exact rfl;exact rfl;exact rfl))
      refine ⟨by (repeat' (first | refine agree_upd rfl ?_ | exact agree_over | exact agree_refl _ _ | refine agree_over2 rfl ?_)), m - 1, _, by omega, Ent.refl _ _, ?_⟩
      exact ft_next t go gr gt pv nv k m gA cA gB cB gC cC vs Z Z2 y hm hk hvl hZ hy hz2
    · intro hS0
      repeat' (first|(apply OK_seq)|(apply thenQ_n)|(apply OK_region)|(refine OK_rid 13 ?_; refine OK_mix [0, 1, 5, 6, 7, 10, 11, 12] [2] [] [3, 4, 8, 9, 13, 14, 15, 16, 17, 18, 19, 20] [] (id := 13) (by kernel_rfl) (by kernel_rfl) rfl (Ent.nil) (by ((try simp only [pickO, nthO, List.cons_append, List.nil_append]) <;> exact rfl)) (by ((try simp only [pickO, nthO, List.cons_append, List.nil_append]) <;> exact rfl)) (by ((try simp only [pickO]) <;> exact rfl)) (by ((try simp only [pickO, nthO, List.cons_append, List.nil_append]) <;> exact rfl)) ?_)|(apply OKx_nilK)|(apply OK_block)|(apply blockQ_n)|(apply blockQ_s)|(apply thenQ_e)|(apply blockQ_e;exact rfl)|(apply thenQ_r)|(apply blockQ_r)|(apply OK_condT;exact rfl)|(apply OK_condF;exact rfl)|(apply OK_skip)|(apply OK_exit)|(apply OK_ret)|(apply OKx_move;(conv=>lhs;whnf)<;>exact rfl)|(apply OKx_assign;(conv=>lhs;whnf)<;>exact rfl)|(apply OKx_ldB;exact rfl;(first | exact at0|exact at1|exact at2|exact at3|exact at4|exact at5|exact at6|exact at7);exact rfl)|(apply OKx_ldR;(conv=>lhs;whnf)<;>exact rfl;(with_reducible assumption))|(apply OKx_ldI;exact rfl;(first | exact at0|exact at1|exact at2|exact at3|exact at4|exact at5|exact at6|exact at7);omega)|(apply OKx_len;exact rfl)|(apply OKx_lenR;(conv=>lhs;whnf)<;>exact rfl;(with_reducible assumption))|(apply OKx_lenR2;(conv=>lhs;whnf)<;>exact rfl;(with_reducible assumption))|(apply OKx_lenO;(conv=>lhs;whnf)<;>exact rfl;(first | exact at0|exact at1|exact at2|exact at3|exact at4|exact at5|exact at6|exact at7))|(apply OKx_lss;exact rfl;exact rfl;all_goals (intro _; try (exfalso;omega)))|(apply OKx_gtr;exact rfl;exact rfl;all_goals (intro _; try (exfalso;omega)))|(apply OKx_neq;exact rfl;exact rfl;all_goals (intro _; try (exfalso;omega)))|(apply OKx_sneq;exact rfl;exact rfl; all_goals intro _)|(apply OKx_idxO;exact rfl;exact rfl;omega)|(apply OKx_idxR;(conv=>lhs;whnf)<;>exact rfl;(with_reducible assumption);exact rfl;omega;intro _ _)|(apply OKx_idxOz;exact rfl;exact rfl;omega;omega)|(apply OKx_idxRz;(conv=>lhs;whnf)<;>exact rfl;(with_reducible assumption);exact rfl;omega;omega;intro _ _)|(apply OKx_fldO;exact rfl;exact rfl)|(apply OKx_fldR;(conv=>lhs;whnf)<;>exact rfl;(with_reducible assumption); decide;intro _ _)|(apply OKx_inc;exact rfl;exact rfl;omega)|(apply OKx_addN;exact rfl;exact rfl;omega)|(apply OKx_add;exact rfl;exact rfl;omega;omega)|(apply OKx_notT;exact rfl)|(apply OKx_notF;exact rfl)|(apply OKx_boxA;exact rfl;intro _)|(apply OKx_allocA;intro _)|(apply OKx_ldBA;exact rfl;(first | exact at0|exact at1|exact at2|exact at3|exact at4|exact at5|exact at6|exact at7);exact rfl)|(apply OKx_ldRA;(conv=>lhs;whnf)<;>exact rfl;(with_reducible assumption))|(apply OKx_stB;exact rfl;(conv=>lhs;whnf)<;>exact rfl;exact rfl;exact rfl;(first | exact at0|exact at1|exact at2|exact at3|exact at4|exact at5|exact at6|exact at7);exact rfl;exact rfl;exact rfl)|(apply OKx_slit1;(conv=>lhs;whnf)<;>exact rfl;exact rfl;intro _)|(apply OKx_stBA; kernel_rfl;exact rfl;exact rfl;exact rfl;(first | exact at0|exact at1|exact at2|exact at3|exact at4|exact at5|exact at6|exact at7);exact rfl;exact rfl;exact rfl))
      refine OKd_step3 (S := [0, 1, 2, 5, 6, 7, 10, 11, 12]) (i1 := 3) (S1 := [0, 1, 2, 3, 5, 6, 7, 10, 11, 12]) (i2 := 8) (S2 := [0, 1, 2, 5, 6, 7, 8, 10, 11, 12]) (i3 := 13) (S3 := [0, 1, 2, 5, 6, 7, 10, 11, 12, 13]) (.inr (Ent.pick [3] rfl)) (by kernel_rfl) (by kernel_rfl) (by kernel_rfl) (by kernel_rfl) rfl rfl rfl ?_ ?_ ?_
      · apply OKx_slit1; (focus ((conv=>lhs;whnf)<;>exact rfl)); (focus exact rfl);intro _
        apply OKx_nilK
        refine OKd_step3 (S := [0, 1, 2, 3, 5, 6, 7, 10, 11, 12]) (i1 := 4) (S1 := [0, 1, 2, 3, 4, 5, 6, 7, 10, 11, 12]) (i2 := 8) (S2 := [0, 1, 2, 3, 5, 6, 7, 8, 10, 11, 12]) (i3 := 13) (S3 := [0, 1, 2, 3, 5, 6, 7, 10, 11, 12, 13]) (.inr (Ent.pick [4] rfl)) (by kernel_rfl) (by kernel_rfl) (by kernel_rfl) (by kernel_rfl) rfl rfl rfl ?_ ?_ ?_
        · refine OKx_append1 1 0 rfl rfl rfl rfl rfl (by omega) (by omega) ?_; intro gA cA
          apply OKx_nilK
          refine OKd_pure (S := [0, 1, 2, 3, 4, 5, 6, 7, 10, 11, 12]) (i := 15) (S1 := [0, 1, 2, 3, 4, 5, 6, 7, 10, 11, 12, 15]) (by kernel_rfl) (by kernel_rfl) (by kernel_rfl) rfl ?_
          apply OKx_fldO; (focus ((conv=>lhs;whnf)<;>exact rfl)); (focus exact rfl)
          apply OKx_nilK
          refine OKd_step2 (S := [0, 1, 2, 3, 4, 5, 6, 7, 10, 11, 12, 15]) (i1 := 8) (S1 := [0, 1, 2, 3, 4, 5, 6, 7, 8, 10, 11, 12, 15]) (i2 := 13) (S2 := [0, 1, 2, 3, 4, 5, 6, 7, 10, 11, 12, 13, 15]) (.inr (Ent.pick [4] rfl)) (by kernel_rfl) (by kernel_rfl) (by kernel_rfl) rfl rfl ?_ ?_
          · apply OKx_slit1; (focus ((conv=>lhs;whnf)<;>exact rfl)); (focus exact rfl);intro _
            apply OKx_nilK
            refine OKd_step2 (S := [0, 1, 2, 3, 4, 5, 6, 7, 8, 10, 11, 12, 15]) (i1 := 9) (S1 := [0, 1, 2, 3, 4, 5, 6, 7, 8, 9, 10, 11, 12, 15]) (i2 := 13) (S2 := [0, 1, 2, 3, 4, 5, 6, 7, 8, 10, 11, 12, 13, 15]) (.inr (Ent.pick [5] rfl)) (by kernel_rfl) (by kernel_rfl) (by kernel_rfl) rfl rfl ?_ ?_
            · refine OKx_append1 3 0 rfl rfl rfl rfl rfl (by omega) (by omega) ?_; intro gB cB
              apply OKx_nilK
              refine OKd_step1 (S := [0, 1, 2, 3, 4, 5, 6, 7, 8, 9, 10, 11, 12, 15]) (i1 := 13) (S1 := [0, 1, 2, 3, 4, 5, 6, 7, 8, 9, 10, 11, 12, 13, 15]) (.inr (Ent.pick [5] rfl)) (by kernel_rfl) (by kernel_rfl) rfl ?_
              · apply OKx_slit1; (focus ((conv=>lhs;whnf)<;>exact rfl)); (focus exact rfl);intro _
                apply OKx_nilK
                refine OKd_step1 (S := [0, 1, 2, 3, 4, 5, 6, 7, 8, 9, 10, 11, 12, 13, 15]) (i1 := 14) (S1 := [0, 1, 2, 3, 4, 5, 6, 7, 8, 9, 10, 11, 12, 13, 14, 15]) (.inr (Ent.pick [6] rfl)) (by kernel_rfl) (by kernel_rfl) rfl ?_
                · refine OKx_append1 5 0 rfl rfl rfl rfl rfl (by omega) (by omega) ?_; intro gC cC
                  apply OKx_nilK
                  exact hS0 _ _ ⟨by (repeat' (first | refine agree_upd rfl ?_ | exact agree_over | exact agree_refl _ _ | refine agree_over2 rfl ?_)), _, Ent.sub ((((List.Sublist.refl _).cons _).cons _).cons _), gA, cA, gB, cB, gC, cC, _, _, _, rfl, rfl, rfl, rfl, rfl, hx9, hy9, fun _ _ h => h.drop1⟩
            · apply OKx_slit1; (focus ((conv=>lhs;whnf)<;>exact rfl)); (focus exact rfl);intro _
              apply OKx_nilK
              refine OKd_step1 (S := [0, 1, 2, 3, 4, 5, 6, 7, 8, 10, 11, 12, 13, 15]) (i1 := 9) (S1 := [0, 1, 2, 3, 4, 5, 6, 7, 8, 9, 10, 11, 12, 13, 15]) (.inr (Ent.pick [6] rfl)) (by kernel_rfl) (by kernel_rfl) rfl ?_
              · refine OKx_append1 4 1 rfl rfl rfl rfl rfl (by omega) (by omega) ?_; intro gB cB
                apply OKx_nilK
                refine OKd_step1 (S := [0, 1, 2, 3, 4, 5, 6, 7, 8, 9, 10, 11, 12, 13, 15]) (i1 := 14) (S1 := [0, 1, 2, 3, 4, 5, 6, 7, 8, 9, 10, 11, 12, 13, 14, 15]) (.inr (Ent.pick [6] rfl)) (by kernel_rfl) (by kernel_rfl) rfl ?_
                · refine OKx_append1 5 0 rfl rfl rfl rfl rfl (by omega) (by omega) ?_; intro gC cC
                  apply OKx_nilK
                  exact hS0 _ _ ⟨by (repeat' (first | refine agree_upd rfl ?_ | exact agree_over | exact agree_refl _ _ | refine agree_over2 rfl ?_)), _, Ent.sub ((((List.Sublist.refl _).cons _).cons _).cons _), gA, cA, gB, cB, gC, cC, _, _, _, rfl, rfl, rfl, rfl, rfl, hx9, hy9, fun _ _ h => h.drop1⟩
          · apply OKx_slit1; (focus ((conv=>lhs;whnf)<;>exact rfl)); (focus exact rfl);intro _
            apply OKx_nilK
            refine OKd_step1 (S := [0, 1, 2, 3, 4, 5, 6, 7, 10, 11, 12, 13, 15]) (i1 := 8) (S1 := [0, 1, 2, 3, 4, 5, 6, 7, 8, 10, 11, 12, 13, 15]) (.inr (Ent.pick [5] rfl)) (by kernel_rfl) (by kernel_rfl) rfl ?_
            · apply OKx_slit1; (focus ((conv=>lhs;whnf)<;>exact rfl)); (focus exact rfl);intro _
              apply OKx_nilK
              refine OKd_step1 (S := [0, 1, 2, 3, 4, 5, 6, 7, 8, 10, 11, 12, 13, 15]) (i1 := 9) (S1 := [0, 1, 2, 3, 4, 5, 6, 7, 8, 9, 10, 11, 12, 13, 15]) (.inr (Ent.pick [6] rfl)) (by kernel_rfl) (by kernel_rfl) rfl ?_
              · refine OKx_append1 4 0 rfl rfl rfl rfl rfl (by omega) (by omega) ?_; intro gB cB
                apply OKx_nilK
                refine OKd_step1 (S := [0, 1, 2, 3, 4, 5, 6, 7, 8, 9, 10, 11, 12, 13, 15]) (i1 := 14) (S1 := [0, 1, 2, 3, 4, 5, 6, 7, 8, 9, 10, 11, 12, 13, 14, 15]) (.inr (Ent.pick [6] rfl)) (by kernel_rfl) (by kernel_rfl) rfl ?_
                · refine OKx_append1 5 1 rfl rfl rfl rfl rfl (by omega) (by omega) ?_; intro gC cC
                  apply OKx_nilK
                  exact hS0 _ _ ⟨by (repeat' (first | refine agree_upd rfl ?_ | exact agree_over | exact agree_refl _ _ | refine agree_over2 rfl ?_)), _, Ent.sub ((((List.Sublist.refl _).cons _).cons _).cons _), gA, cA, gB, cB, gC, cC, _, _, _, rfl, rfl, rfl, rfl, rfl, hx9, hy9, fun _ _ h => h.drop1⟩
        · apply OKx_slit1; (focus ((conv=>lhs;whnf)<;>exact rfl)); (focus exact rfl);intro _
          apply OKx_nilK
          refine OKd_step2 (S := [0, 1, 2, 3, 5, 6, 7, 8, 10, 11, 12]) (i1 := 4) (S1 := [0, 1, 2, 3, 4, 5, 6, 7, 8, 10, 11, 12]) (i2 := 13) (S2 := [0, 1, 2, 3, 5, 6, 7, 8, 10, 11, 12, 13]) (.inr (Ent.pick [5] rfl)) (by kernel_rfl) (by kernel_rfl) (by kernel_rfl) rfl rfl ?_ ?_
          · refine OKx_append1 2 1 rfl rfl rfl rfl rfl (by omega) (by omega) ?_; intro gA cA
            apply OKx_nilK
            refine OKd_pure (S := [0, 1, 2, 3, 4, 5, 6, 7, 8, 10, 11, 12]) (i := 15) (S1 := [0, 1, 2, 3, 4, 5, 6, 7, 8, 10, 11, 12, 15]) (by kernel_rfl) (by kernel_rfl) (by kernel_rfl) rfl ?_
            apply OKx_fldO; (focus ((conv=>lhs;whnf)<;>exact rfl)); (focus exact rfl)
            apply OKx_nilK
            refine OKd_step2 (S := [0, 1, 2, 3, 4, 5, 6, 7, 8, 10, 11, 12, 15]) (i1 := 9) (S1 := [0, 1, 2, 3, 4, 5, 6, 7, 8, 9, 10, 11, 12, 15]) (i2 := 13) (S2 := [0, 1, 2, 3, 4, 5, 6, 7, 8, 10, 11, 12, 13, 15]) (.inr (Ent.pick [5] rfl)) (by kernel_rfl) (by kernel_rfl) (by kernel_rfl) rfl rfl ?_ ?_
            · refine OKx_append1 3 0 rfl rfl rfl rfl rfl (by omega) (by omega) ?_; intro gB cB
              apply OKx_nilK
              refine OKd_step1 (S := [0, 1, 2, 3, 4, 5, 6, 7, 8, 9, 10, 11, 12, 15]) (i1 := 13) (S1 := [0, 1, 2, 3, 4, 5, 6, 7, 8, 9, 10, 11, 12, 13, 15]) (.inr (Ent.pick [5] rfl)) (by kernel_rfl) (by kernel_rfl) rfl ?_
              · apply OKx_slit1; (focus ((conv=>lhs;whnf)<;>exact rfl)); (focus exact rfl);intro _
                apply OKx_nilK
                refine OKd_step1 (S := [0, 1, 2, 3, 4, 5, 6, 7, 8, 9, 10, 11, 12, 13, 15]) (i1 := 14) (S1 := [0, 1, 2, 3, 4, 5, 6, 7, 8, 9, 10, 11, 12, 13, 14, 15]) (.inr (Ent.pick [6] rfl)) (by kernel_rfl) (by kernel_rfl) rfl ?_
                · refine OKx_append1 5 0 rfl rfl rfl rfl rfl (by omega) (by omega) ?_; intro gC cC
                  apply OKx_nilK
                  exact hS0 _ _ ⟨by (repeat' (first | refine agree_upd rfl ?_ | exact agree_over | exact agree_refl _ _ | refine agree_over2 rfl ?_)), _, Ent.sub ((((List.Sublist.refl _).cons _).cons _).cons _), gA, cA, gB, cB, gC, cC, _, _, _, rfl, rfl, rfl, rfl, rfl, hx9, hy9, fun _ _ h => h.drop1⟩
            · apply OKx_slit1; (focus ((conv=>lhs;whnf)<;>exact rfl)); (focus exact rfl);intro _
              apply OKx_nilK
              refine OKd_step1 (S := [0, 1, 2, 3, 4, 5, 6, 7, 8, 10, 11, 12, 13, 15]) (i1 := 9) (S1 := [0, 1, 2, 3, 4, 5, 6, 7, 8, 9, 10, 11, 12, 13, 15]) (.inr (Ent.pick [6] rfl)) (by kernel_rfl) (by kernel_rfl) rfl ?_
              · refine OKx_append1 4 1 rfl rfl rfl rfl rfl (by omega) (by omega) ?_; intro gB cB
                apply OKx_nilK
                refine OKd_step1 (S := [0, 1, 2, 3, 4, 5, 6, 7, 8, 9, 10, 11, 12, 13, 15]) (i1 := 14) (S1 := [0, 1, 2, 3, 4, 5, 6, 7, 8, 9, 10, 11, 12, 13, 14, 15]) (.inr (Ent.pick [6] rfl)) (by kernel_rfl) (by kernel_rfl) rfl ?_
                · refine OKx_append1 5 0 rfl rfl rfl rfl rfl (by omega) (by omega) ?_; intro gC cC
                  apply OKx_nilK
                  exact hS0 _ _ ⟨by (repeat' (first | refine agree_upd rfl ?_ | exact agree_over | exact agree_refl _ _ | refine agree_over2 rfl ?_)), _, Ent.sub ((((List.Sublist.refl _).cons _).cons _).cons _), gA, cA, gB, cB, gC, cC, _, _, _, rfl, rfl, rfl, rfl, rfl, hx9, hy9, fun _ _ h => h.drop1⟩
          · apply OKx_slit1; (focus ((conv=>lhs;whnf)<;>exact rfl)); (focus exact rfl);intro _
            apply OKx_nilK
            refine OKd_step1 (S := [0, 1, 2, 3, 5, 6, 7, 8, 10, 11, 12, 13]) (i1 := 4) (S1 := [0, 1, 2, 3, 4, 5, 6, 7, 8, 10, 11, 12, 13]) (.inr (Ent.pick [6] rfl)) (by kernel_rfl) (by kernel_rfl) rfl ?_
            · refine OKx_append1 3 2 rfl rfl rfl rfl rfl (by omega) (by omega) ?_; intro gA cA
              apply OKx_nilK
              refine OKd_pure (S := [0, 1, 2, 3, 4, 5, 6, 7, 8, 10, 11, 12, 13]) (i := 15) (S1 := [0, 1, 2, 3, 4, 5, 6, 7, 8, 10, 11, 12, 13, 15]) (by kernel_rfl) (by kernel_rfl) (by kernel_rfl) rfl ?_
              apply OKx_fldO; (focus ((conv=>lhs;whnf)<;>exact rfl)); (focus exact rfl)
              apply OKx_nilK
              refine OKd_step1 (S := [0, 1, 2, 3, 4, 5, 6, 7, 8, 10, 11, 12, 13, 15]) (i1 := 9) (S1 := [0, 1, 2, 3, 4, 5, 6, 7, 8, 9, 10, 11, 12, 13, 15]) (.inr (Ent.pick [6] rfl)) (by kernel_rfl) (by kernel_rfl) rfl ?_
              · refine OKx_append1 4 1 rfl rfl rfl rfl rfl (by omega) (by omega) ?_; intro gB cB
                apply OKx_nilK
                refine OKd_step1 (S := [0, 1, 2, 3, 4, 5, 6, 7, 8, 9, 10, 11, 12, 13, 15]) (i1 := 14) (S1 := [0, 1, 2, 3, 4, 5, 6, 7, 8, 9, 10, 11, 12, 13, 14, 15]) (.inr (Ent.pick [6] rfl)) (by kernel_rfl) (by kernel_rfl) rfl ?_
                · refine OKx_append1 5 0 rfl rfl rfl rfl rfl (by omega) (by omega) ?_; intro gC cC
                  apply OKx_nilK
                  exact hS0 _ _ ⟨by (repeat' (first | refine agree_upd rfl ?_ | exact agree_over | exact agree_refl _ _ | refine agree_over2 rfl ?_)), _, Ent.sub ((((List.Sublist.refl _).cons _).cons _).cons _), gA, cA, gB, cB, gC, cC, _, _, _, rfl, rfl, rfl, rfl, rfl, hx9, hy9, fun _ _ h => h.drop1⟩
        · apply OKx_slit1; (focus ((conv=>lhs;whnf)<;>exact rfl)); (focus exact rfl);intro _
          apply OKx_nilK
          refine OKd_step2 (S := [0, 1, 2, 3, 5, 6, 7, 10, 11, 12, 13]) (i1 := 4) (S1 := [0, 1, 2, 3, 4, 5, 6, 7, 10, 11, 12, 13]) (i2 := 8) (S2 := [0, 1, 2, 3, 5, 6, 7, 8, 10, 11, 12, 13]) (.inr (Ent.pick [5] rfl)) (by kernel_rfl) (by kernel_rfl) (by kernel_rfl) rfl rfl ?_ ?_
          · refine OKx_append1 2 1 rfl rfl rfl rfl rfl (by omega) (by omega) ?_; intro gA cA
            apply OKx_nilK
            refine OKd_pure (S := [0, 1, 2, 3, 4, 5, 6, 7, 10, 11, 12, 13]) (i := 15) (S1 := [0, 1, 2, 3, 4, 5, 6, 7, 10, 11, 12, 13, 15]) (by kernel_rfl) (by kernel_rfl) (by kernel_rfl) rfl ?_
            apply OKx_fldO; (focus ((conv=>lhs;whnf)<;>exact rfl)); (focus exact rfl)
            apply OKx_nilK
            refine OKd_step1 (S := [0, 1, 2, 3, 4, 5, 6, 7, 10, 11, 12, 13, 15]) (i1 := 8) (S1 := [0, 1, 2, 3, 4, 5, 6, 7, 8, 10, 11, 12, 13, 15]) (.inr (Ent.pick [5] rfl)) (by kernel_rfl) (by kernel_rfl) rfl ?_
            · apply OKx_slit1; (focus ((conv=>lhs;whnf)<;>exact rfl)); (focus exact rfl);intro _
              apply OKx_nilK
              refine OKd_step1 (S := [0, 1, 2, 3, 4, 5, 6, 7, 8, 10, 11, 12, 13, 15]) (i1 := 9) (S1 := [0, 1, 2, 3, 4, 5, 6, 7, 8, 9, 10, 11, 12, 13, 15]) (.inr (Ent.pick [6] rfl)) (by kernel_rfl) (by kernel_rfl) rfl ?_
              · refine OKx_append1 4 0 rfl rfl rfl rfl rfl (by omega) (by omega) ?_; intro gB cB
                apply OKx_nilK
                refine OKd_step1 (S := [0, 1, 2, 3, 4, 5, 6, 7, 8, 9, 10, 11, 12, 13, 15]) (i1 := 14) (S1 := [0, 1, 2, 3, 4, 5, 6, 7, 8, 9, 10, 11, 12, 13, 14, 15]) (.inr (Ent.pick [6] rfl)) (by kernel_rfl) (by kernel_rfl) rfl ?_
                · refine OKx_append1 5 1 rfl rfl rfl rfl rfl (by omega) (by omega) ?_; intro gC cC
                  apply OKx_nilK
                  exact hS0 _ _ ⟨by (repeat' (first | refine agree_upd rfl ?_ | exact agree_over | exact agree_refl _ _ | refine agree_over2 rfl ?_)), _, Ent.sub ((((List.Sublist.refl _).cons _).cons _).cons _), gA, cA, gB, cB, gC, cC, _, _, _, rfl, rfl, rfl, rfl, rfl, hx9, hy9, fun _ _ h => h.drop1⟩
          · apply OKx_slit1; (focus ((conv=>lhs;whnf)<;>exact rfl)); (focus exact rfl);intro _
            apply OKx_nilK
            refine OKd_step1 (S := [0, 1, 2, 3, 5, 6, 7, 8, 10, 11, 12, 13]) (i1 := 4) (S1 := [0, 1, 2, 3, 4, 5, 6, 7, 8, 10, 11, 12, 13]) (.inr (Ent.pick [6] rfl)) (by kernel_rfl) (by kernel_rfl) rfl ?_
            · refine OKx_append1 3 2 rfl rfl rfl rfl rfl (by omega) (by omega) ?_; intro gA cA
              apply OKx_nilK
              refine OKd_pure (S := [0, 1, 2, 3, 4, 5, 6, 7, 8, 10, 11, 12, 13]) (i := 15) (S1 := [0, 1, 2, 3, 4, 5, 6, 7, 8, 10, 11, 12, 13, 15]) (by kernel_rfl) (by kernel_rfl) (by kernel_rfl) rfl ?_
              apply OKx_fldO; (focus ((conv=>lhs;whnf)<;>exact rfl)); (focus exact rfl)
              apply OKx_nilK
              refine OKd_step1 (S := [0, 1, 2, 3, 4, 5, 6, 7, 8, 10, 11, 12, 13, 15]) (i1 := 9) (S1 := [0, 1, 2, 3, 4, 5, 6, 7, 8, 9, 10, 11, 12, 13, 15]) (.inr (Ent.pick [6] rfl)) (by kernel_rfl) (by kernel_rfl) rfl ?_
              · refine OKx_append1 4 0 rfl rfl rfl rfl rfl (by omega) (by omega) ?_; intro gB cB
                apply OKx_nilK
                refine OKd_step1 (S := [0, 1, 2, 3, 4, 5, 6, 7, 8, 9, 10, 11, 12, 13, 15]) (i1 := 14) (S1 := [0, 1, 2, 3, 4, 5, 6, 7, 8, 9, 10, 11, 12, 13, 14, 15]) (.inr (Ent.pick [6] rfl)) (by kernel_rfl) (by kernel_rfl) rfl ?_
                · refine OKx_append1 5 1 rfl rfl rfl rfl rfl (by omega) (by omega) ?_; intro gC cC
                  apply OKx_nilK
                  exact hS0 _ _ ⟨by (repeat' (first | refine agree_upd rfl ?_ | exact agree_over | exact agree_refl _ _ | refine agree_over2 rfl ?_)), _, Ent.sub ((((List.Sublist.refl _).cons _).cons _).cons _), gA, cA, gB, cB, gC, cC, _, _, _, rfl, rfl, rfl, rfl, rfl, hx9, hy9, fun _ _ h => h.drop1⟩
      · apply OKx_slit1; (focus ((conv=>lhs;whnf)<;>exact rfl)); (focus exact rfl);intro _
        apply OKx_nilK
        refine OKd_step2 (S := [0, 1, 2, 5, 6, 7, 8, 10, 11, 12]) (i1 := 3) (S1 := [0, 1, 2, 3, 5, 6, 7, 8, 10, 11, 12]) (i2 := 13) (S2 := [0, 1, 2, 5, 6, 7, 8, 10, 11, 12, 13]) (.inr (Ent.pick [4] rfl)) (by kernel_rfl) (by kernel_rfl) (by kernel_rfl) rfl rfl ?_ ?_
        · apply OKx_slit1; (focus ((conv=>lhs;whnf)<;>exact rfl)); (focus exact rfl);intro _
          apply OKx_nilK
          refine OKd_step2 (S := [0, 1, 2, 3, 5, 6, 7, 8, 10, 11, 12]) (i1 := 4) (S1 := [0, 1, 2, 3, 4, 5, 6, 7, 8, 10, 11, 12]) (i2 := 13) (S2 := [0, 1, 2, 3, 5, 6, 7, 8, 10, 11, 12, 13]) (.inr (Ent.pick [5] rfl)) (by kernel_rfl) (by kernel_rfl) (by kernel_rfl) rfl rfl ?_ ?_
          · refine OKx_append1 2 0 rfl rfl rfl rfl rfl (by omega) (by omega) ?_; intro gA cA
            apply OKx_nilK
            refine OKd_pure (S := [0, 1, 2, 3, 4, 5, 6, 7, 8, 10, 11, 12]) (i := 15) (S1 := [0, 1, 2, 3, 4, 5, 6, 7, 8, 10, 11, 12, 15]) (by kernel_rfl) (by kernel_rfl) (by kernel_rfl) rfl ?_
            apply OKx_fldO; (focus ((conv=>lhs;whnf)<;>exact rfl)); (focus exact rfl)
            apply OKx_nilK
            refine OKd_step2 (S := [0, 1, 2, 3, 4, 5, 6, 7, 8, 10, 11, 12, 15]) (i1 := 9) (S1 := [0, 1, 2, 3, 4, 5, 6, 7, 8, 9, 10, 11, 12, 15]) (i2 := 13) (S2 := [0, 1, 2, 3, 4, 5, 6, 7, 8, 10, 11, 12, 13, 15]) (.inr (Ent.pick [5] rfl)) (by kernel_rfl) (by kernel_rfl) (by kernel_rfl) rfl rfl ?_ ?_
            · refine OKx_append1 3 1 rfl rfl rfl rfl rfl (by omega) (by omega) ?_; intro gB cB
              apply OKx_nilK
              refine OKd_step1 (S := [0, 1, 2, 3, 4, 5, 6, 7, 8, 9, 10, 11, 12, 15]) (i1 := 13) (S1 := [0, 1, 2, 3, 4, 5, 6, 7, 8, 9, 10, 11, 12, 13, 15]) (.inr (Ent.pick [5] rfl)) (by kernel_rfl) (by kernel_rfl) rfl ?_
              · apply OKx_slit1; (focus ((conv=>lhs;whnf)<;>exact rfl)); (focus exact rfl);intro _
                apply OKx_nilK
                refine OKd_step1 (S := [0, 1, 2, 3, 4, 5, 6, 7, 8, 9, 10, 11, 12, 13, 15]) (i1 := 14) (S1 := [0, 1, 2, 3, 4, 5, 6, 7, 8, 9, 10, 11, 12, 13, 14, 15]) (.inr (Ent.pick [6] rfl)) (by kernel_rfl) (by kernel_rfl) rfl ?_
                · refine OKx_append1 5 0 rfl rfl rfl rfl rfl (by omega) (by omega) ?_; intro gC cC
                  apply OKx_nilK
                  exact hS0 _ _ ⟨by (repeat' (first | refine agree_upd rfl ?_ | exact agree_over | exact agree_refl _ _ | refine agree_over2 rfl ?_)), _, Ent.sub ((((List.Sublist.refl _).cons _).cons _).cons _), gA, cA, gB, cB, gC, cC, _, _, _, rfl, rfl, rfl, rfl, rfl, hx9, hy9, fun _ _ h => h.drop1⟩
            · apply OKx_slit1; (focus ((conv=>lhs;whnf)<;>exact rfl)); (focus exact rfl);intro _
              apply OKx_nilK
              refine OKd_step1 (S := [0, 1, 2, 3, 4, 5, 6, 7, 8, 10, 11, 12, 13, 15]) (i1 := 9) (S1 := [0, 1, 2, 3, 4, 5, 6, 7, 8, 9, 10, 11, 12, 13, 15]) (.inr (Ent.pick [6] rfl)) (by kernel_rfl) (by kernel_rfl) rfl ?_
              · refine OKx_append1 4 2 rfl rfl rfl rfl rfl (by omega) (by omega) ?_; intro gB cB
                apply OKx_nilK
                refine OKd_step1 (S := [0, 1, 2, 3, 4, 5, 6, 7, 8, 9, 10, 11, 12, 13, 15]) (i1 := 14) (S1 := [0, 1, 2, 3, 4, 5, 6, 7, 8, 9, 10, 11, 12, 13, 14, 15]) (.inr (Ent.pick [6] rfl)) (by kernel_rfl) (by kernel_rfl) rfl ?_
                · refine OKx_append1 5 0 rfl rfl rfl rfl rfl (by omega) (by omega) ?_; intro gC cC
                  apply OKx_nilK
                  exact hS0 _ _ ⟨by (repeat' (first | refine agree_upd rfl ?_ | exact agree_over | exact agree_refl _ _ | refine agree_over2 rfl ?_)), _, Ent.sub ((((List.Sublist.refl _).cons _).cons _).cons _), gA, cA, gB, cB, gC, cC, _, _, _, rfl, rfl, rfl, rfl, rfl, hx9, hy9, fun _ _ h => h.drop1⟩
          · apply OKx_slit1; (focus ((conv=>lhs;whnf)<;>exact rfl)); (focus exact rfl);intro _
            apply OKx_nilK
            refine OKd_step1 (S := [0, 1, 2, 3, 5, 6, 7, 8, 10, 11, 12, 13]) (i1 := 4) (S1 := [0, 1, 2, 3, 4, 5, 6, 7, 8, 10, 11, 12, 13]) (.inr (Ent.pick [6] rfl)) (by kernel_rfl) (by kernel_rfl) rfl ?_
            · refine OKx_append1 3 1 rfl rfl rfl rfl rfl (by omega) (by omega) ?_; intro gA cA
              apply OKx_nilK
              refine OKd_pure (S := [0, 1, 2, 3, 4, 5, 6, 7, 8, 10, 11, 12, 13]) (i := 15) (S1 := [0, 1, 2, 3, 4, 5, 6, 7, 8, 10, 11, 12, 13, 15]) (by kernel_rfl) (by kernel_rfl) (by kernel_rfl) rfl ?_
              apply OKx_fldO; (focus ((conv=>lhs;whnf)<;>exact rfl)); (focus exact rfl)
              apply OKx_nilK
              refine OKd_step1 (S := [0, 1, 2, 3, 4, 5, 6, 7, 8, 10, 11, 12, 13, 15]) (i1 := 9) (S1 := [0, 1, 2, 3, 4, 5, 6, 7, 8, 9, 10, 11, 12, 13, 15]) (.inr (Ent.pick [6] rfl)) (by kernel_rfl) (by kernel_rfl) rfl ?_
              · refine OKx_append1 4 2 rfl rfl rfl rfl rfl (by omega) (by omega) ?_; intro gB cB
                apply OKx_nilK
                refine OKd_step1 (S := [0, 1, 2, 3, 4, 5, 6, 7, 8, 9, 10, 11, 12, 13, 15]) (i1 := 14) (S1 := [0, 1, 2, 3, 4, 5, 6, 7, 8, 9, 10, 11, 12, 13, 14, 15]) (.inr (Ent.pick [6] rfl)) (by kernel_rfl) (by kernel_rfl) rfl ?_
                · refine OKx_append1 5 0 rfl rfl rfl rfl rfl (by omega) (by omega) ?_; intro gC cC
                  apply OKx_nilK
                  exact hS0 _ _ ⟨by (repeat' (first | refine agree_upd rfl ?_ | exact agree_over | exact agree_refl _ _ | refine agree_over2 rfl ?_)), _, Ent.sub ((((List.Sublist.refl _).cons _).cons _).cons _), gA, cA, gB, cB, gC, cC, _, _, _, rfl, rfl, rfl, rfl, rfl, hx9, hy9, fun _ _ h => h.drop1⟩
        · apply OKx_slit1; (focus ((conv=>lhs;whnf)<;>exact rfl)); (focus exact rfl);intro _
          apply OKx_nilK
          refine OKd_step1 (S := [0, 1, 2, 5, 6, 7, 8, 10, 11, 12, 13]) (i1 := 3) (S1 := [0, 1, 2, 3, 5, 6, 7, 8, 10, 11, 12, 13]) (.inr (Ent.pick [5] rfl)) (by kernel_rfl) (by kernel_rfl) rfl ?_
          · apply OKx_slit1; (focus ((conv=>lhs;whnf)<;>exact rfl)); (focus exact rfl);intro _
            apply OKx_nilK
            refine OKd_step1 (S := [0, 1, 2, 3, 5, 6, 7, 8, 10, 11, 12, 13]) (i1 := 4) (S1 := [0, 1, 2, 3, 4, 5, 6, 7, 8, 10, 11, 12, 13]) (.inr (Ent.pick [6] rfl)) (by kernel_rfl) (by kernel_rfl) rfl ?_
            · refine OKx_append1 3 0 rfl rfl rfl rfl rfl (by omega) (by omega) ?_; intro gA cA
              apply OKx_nilK
              refine OKd_pure (S := [0, 1, 2, 3, 4, 5, 6, 7, 8, 10, 11, 12, 13]) (i := 15) (S1 := [0, 1, 2, 3, 4, 5, 6, 7, 8, 10, 11, 12, 13, 15]) (by kernel_rfl) (by kernel_rfl) (by kernel_rfl) rfl ?_
              apply OKx_fldO; (focus ((conv=>lhs;whnf)<;>exact rfl)); (focus exact rfl)
              apply OKx_nilK
              refine OKd_step1 (S := [0, 1, 2, 3, 4, 5, 6, 7, 8, 10, 11, 12, 13, 15]) (i1 := 9) (S1 := [0, 1, 2, 3, 4, 5, 6, 7, 8, 9, 10, 11, 12, 13, 15]) (.inr (Ent.pick [6] rfl)) (by kernel_rfl) (by kernel_rfl) rfl ?_
              · refine OKx_append1 4 2 rfl rfl rfl rfl rfl (by omega) (by omega) ?_; intro gB cB
                apply OKx_nilK
                refine OKd_step1 (S := [0, 1, 2, 3, 4, 5, 6, 7, 8, 9, 10, 11, 12, 13, 15]) (i1 := 14) (S1 := [0, 1, 2, 3, 4, 5, 6, 7, 8, 9, 10, 11, 12, 13, 14, 15]) (.inr (Ent.pick [6] rfl)) (by kernel_rfl) (by kernel_rfl) rfl ?_
                · refine OKx_append1 5 1 rfl rfl rfl rfl rfl (by omega) (by omega) ?_; intro gC cC
                  apply OKx_nilK
                  exact hS0 _ _ ⟨by (repeat' (first | refine agree_upd rfl ?_ | exact agree_over | exact agree_refl _ _ | refine agree_over2 rfl ?_)), _, Ent.sub ((((List.Sublist.refl _).cons _).cons _).cons _), gA, cA, gB, cB, gC, cC, _, _, _, rfl, rfl, rfl, rfl, rfl, hx9, hy9, fun _ _ h => h.drop1⟩
      · apply OKx_slit1; (focus ((conv=>lhs;whnf)<;>exact rfl)); (focus exact rfl);intro _
        apply OKx_nilK
        refine OKd_step2 (S := [0, 1, 2, 5, 6, 7, 10, 11, 12, 13]) (i1 := 3) (S1 := [0, 1, 2, 3, 5, 6, 7, 10, 11, 12, 13]) (i2 := 8) (S2 := [0, 1, 2, 5, 6, 7, 8, 10, 11, 12, 13]) (.inr (Ent.pick [4] rfl)) (by kernel_rfl) (by kernel_rfl) (by kernel_rfl) rfl rfl ?_ ?_
        · apply OKx_slit1; (focus ((conv=>lhs;whnf)<;>exact rfl)); (focus exact rfl);intro _
          apply OKx_nilK
          refine OKd_step2 (S := [0, 1, 2, 3, 5, 6, 7, 10, 11, 12, 13]) (i1 := 4) (S1 := [0, 1, 2, 3, 4, 5, 6, 7, 10, 11, 12, 13]) (i2 := 8) (S2 := [0, 1, 2, 3, 5, 6, 7, 8, 10, 11, 12, 13]) (.inr (Ent.pick [5] rfl)) (by kernel_rfl) (by kernel_rfl) (by kernel_rfl) rfl rfl ?_ ?_
          · refine OKx_append1 2 0 rfl rfl rfl rfl rfl (by omega) (by omega) ?_; intro gA cA
            apply OKx_nilK
            refine OKd_pure (S := [0, 1, 2, 3, 4, 5, 6, 7, 10, 11, 12, 13]) (i := 15) (S1 := [0, 1, 2, 3, 4, 5, 6, 7, 10, 11, 12, 13, 15]) (by kernel_rfl) (by kernel_rfl) (by kernel_rfl) rfl ?_
            apply OKx_fldO; (focus ((conv=>lhs;whnf)<;>exact rfl)); (focus exact rfl)
            apply OKx_nilK
            refine OKd_step1 (S := [0, 1, 2, 3, 4, 5, 6, 7, 10, 11, 12, 13, 15]) (i1 := 8) (S1 := [0, 1, 2, 3, 4, 5, 6, 7, 8, 10, 11, 12, 13, 15]) (.inr (Ent.pick [5] rfl)) (by kernel_rfl) (by kernel_rfl) rfl ?_
            · apply OKx_slit1; (focus ((conv=>lhs;whnf)<;>exact rfl)); (focus exact rfl);intro _
              apply OKx_nilK
              refine OKd_step1 (S := [0, 1, 2, 3, 4, 5, 6, 7, 8, 10, 11, 12, 13, 15]) (i1 := 9) (S1 := [0, 1, 2, 3, 4, 5, 6, 7, 8, 9, 10, 11, 12, 13, 15]) (.inr (Ent.pick [6] rfl)) (by kernel_rfl) (by kernel_rfl) rfl ?_
              · refine OKx_append1 4 0 rfl rfl rfl rfl rfl (by omega) (by omega) ?_; intro gB cB
                apply OKx_nilK
                refine OKd_step1 (S := [0, 1, 2, 3, 4, 5, 6, 7, 8, 9, 10, 11, 12, 13, 15]) (i1 := 14) (S1 := [0, 1, 2, 3, 4, 5, 6, 7, 8, 9, 10, 11, 12, 13, 14, 15]) (.inr (Ent.pick [6] rfl)) (by kernel_rfl) (by kernel_rfl) rfl ?_
                · refine OKx_append1 5 2 rfl rfl rfl rfl rfl (by omega) (by omega) ?_; intro gC cC
                  apply OKx_nilK
                  exact hS0 _ _ ⟨by (repeat' (first | refine agree_upd rfl ?_ | exact agree_over | exact agree_refl _ _ | refine agree_over2 rfl ?_)), _, Ent.sub ((((List.Sublist.refl _).cons _).cons _).cons _), gA, cA, gB, cB, gC, cC, _, _, _, rfl, rfl, rfl, rfl, rfl, hx9, hy9, fun _ _ h => h.drop1⟩
          · apply OKx_slit1; (focus ((conv=>lhs;whnf)<;>exact rfl)); (focus exact rfl);intro _
            apply OKx_nilK
            refine OKd_step1 (S := [0, 1, 2, 3, 5, 6, 7, 8, 10, 11, 12, 13]) (i1 := 4) (S1 := [0, 1, 2, 3, 4, 5, 6, 7, 8, 10, 11, 12, 13]) (.inr (Ent.pick [6] rfl)) (by kernel_rfl) (by kernel_rfl) rfl ?_
            · refine OKx_append1 3 1 rfl rfl rfl rfl rfl (by omega) (by omega) ?_; intro gA cA
              apply OKx_nilK
              refine OKd_pure (S := [0, 1, 2, 3, 4, 5, 6, 7, 8, 10, 11, 12, 13]) (i := 15) (S1 := [0, 1, 2, 3, 4, 5, 6, 7, 8, 10, 11, 12, 13, 15]) (by kernel_rfl) (by kernel_rfl) (by kernel_rfl) rfl ?_
              apply OKx_fldO; (focus ((conv=>lhs;whnf)<;>exact rfl)); (focus exact rfl)
              apply OKx_nilK
              refine OKd_step1 (S := [0, 1, 2, 3, 4, 5, 6, 7, 8, 10, 11, 12, 13, 15]) (i1 := 9) (S1 := [0, 1, 2, 3, 4, 5, 6, 7, 8, 9, 10, 11, 12, 13, 15]) (.inr (Ent.pick [6] rfl)) (by kernel_rfl) (by kernel_rfl) rfl ?_
              · refine OKx_append1 4 0 rfl rfl rfl rfl rfl (by omega) (by omega) ?_; intro gB cB
                apply OKx_nilK
                refine OKd_step1 (S := [0, 1, 2, 3, 4, 5, 6, 7, 8, 9, 10, 11, 12, 13, 15]) (i1 := 14) (S1 := [0, 1, 2, 3, 4, 5, 6, 7, 8, 9, 10, 11, 12, 13, 14, 15]) (.inr (Ent.pick [6] rfl)) (by kernel_rfl) (by kernel_rfl) rfl ?_
                · refine OKx_append1 5 2 rfl rfl rfl rfl rfl (by omega) (by omega) ?_; intro gC cC
                  apply OKx_nilK
                  exact hS0 _ _ ⟨by (repeat' (first | refine agree_upd rfl ?_ | exact agree_over | exact agree_refl _ _ | refine agree_over2 rfl ?_)), _, Ent.sub ((((List.Sublist.refl _).cons _).cons _).cons _), gA, cA, gB, cB, gC, cC, _, _, _, rfl, rfl, rfl, rfl, rfl, hx9, hy9, fun _ _ h => h.drop1⟩
        · apply OKx_slit1; (focus ((conv=>lhs;whnf)<;>exact rfl)); (focus exact rfl);intro _
          apply OKx_nilK
          refine OKd_step1 (S := [0, 1, 2, 5, 6, 7, 8, 10, 11, 12, 13]) (i1 := 3) (S1 := [0, 1, 2, 3, 5, 6, 7, 8, 10, 11, 12, 13]) (.inr (Ent.pick [5] rfl)) (by kernel_rfl) (by kernel_rfl) rfl ?_
          · apply OKx_slit1; (focus ((conv=>lhs;whnf)<;>exact rfl)); (focus exact rfl);intro _
            apply OKx_nilK
            refine OKd_step1 (S := [0, 1, 2, 3, 5, 6, 7, 8, 10, 11, 12, 13]) (i1 := 4) (S1 := [0, 1, 2, 3, 4, 5, 6, 7, 8, 10, 11, 12, 13]) (.inr (Ent.pick [6] rfl)) (by kernel_rfl) (by kernel_rfl) rfl ?_
            · refine OKx_append1 3 0 rfl rfl rfl rfl rfl (by omega) (by omega) ?_; intro gA cA
              apply OKx_nilK
              refine OKd_pure (S := [0, 1, 2, 3, 4, 5, 6, 7, 8, 10, 11, 12, 13]) (i := 15) (S1 := [0, 1, 2, 3, 4, 5, 6, 7, 8, 10, 11, 12, 13, 15]) (by kernel_rfl) (by kernel_rfl) (by kernel_rfl) rfl ?_
              apply OKx_fldO; (focus ((conv=>lhs;whnf)<;>exact rfl)); (focus exact rfl)
              apply OKx_nilK
              refine OKd_step1 (S := [0, 1, 2, 3, 4, 5, 6, 7, 8, 10, 11, 12, 13, 15]) (i1 := 9) (S1 := [0, 1, 2, 3, 4, 5, 6, 7, 8, 9, 10, 11, 12, 13, 15]) (.inr (Ent.pick [6] rfl)) (by kernel_rfl) (by kernel_rfl) rfl ?_
              · refine OKx_append1 4 1 rfl rfl rfl rfl rfl (by omega) (by omega) ?_; intro gB cB
                apply OKx_nilK
                refine OKd_step1 (S := [0, 1, 2, 3, 4, 5, 6, 7, 8, 9, 10, 11, 12, 13, 15]) (i1 := 14) (S1 := [0, 1, 2, 3, 4, 5, 6, 7, 8, 9, 10, 11, 12, 13, 14, 15]) (.inr (Ent.pick [6] rfl)) (by kernel_rfl) (by kernel_rfl) rfl ?_
                · refine OKx_append1 5 2 rfl rfl rfl rfl rfl (by omega) (by omega) ?_; intro gC cC
                  apply OKx_nilK
                  exact hS0 _ _ ⟨by (repeat' (first | refine agree_upd rfl ?_ | exact agree_over | exact agree_refl _ _ | refine agree_over2 rfl ?_)), _, Ent.sub ((((List.Sublist.refl _).cons _).cons _).cons _), gA, cA, gB, cB, gC, cC, _, _, _, rfl, rfl, rfl, rfl, rfl, hx9, hy9, fun _ _ h => h.drop1⟩
end Go.Proofs.YtpknpbeiifjmgaaDoor
