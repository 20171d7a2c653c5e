/-
  Part 25 of the proof: Og33. No statement of the seat is proved here.
-/
import Derived.Test.YtpknpbeiifjmgaaGreatMHPs3324
namespace Go.Proofs.YtpknpbeiifjmgaaGreat
open Go.RowKit Go.Maps
set_option maxRecDepth 100000 in
set_option maxHeartbeats 4000000 in
theorem ins0C_sat (w : World) : SatV Tryz.prog 79 [.slice none 0 0, .int .i64 0, .int .i64 0, .func (.func 35) #[] #[]] w (.tuple #[]) := by
  refine SatL.of 53 [] Tryz.func79 (by kernel_rfl) (by kernel_rfl) rfl rfl rfl rfl ?_
  repeat' (first|(apply OK_seq)|(apply thenQ_n)|(apply OK_region)|(refine OK_rid 4 ?_; refine OK_quiet (id := 4) (by kernel_rfl) (by kernel_rfl) ?_)|(refine OK_rid 6 ?_; refine OK_mix [2, 3, 4] [0, 1, 5, 6, 7, 8, 9, 10, 11, 12, 13, 14] [] [15, 16, 17] [] (id := 6) (by kernel_rfl) (by kernel_rfl) rfl (Ent.nil) (by ((try simp only [pickO, nthO, List.cons_append, List.nil_append]) <;> exact rfl)) (by ((try simp only [pickO, nthO, List.cons_append, List.nil_append]) <;> exact rfl)) (by ((try simp only [pickO]) <;> exact rfl)) (by ((try simp only [pickO, nthO, List.cons_append, List.nil_append]) <;> exact rfl)) ?_)|(apply OKx_nilK)|(apply OK_block)|(apply blockQ_n)|(apply blockQ_s)|(apply thenQ_e)|(apply blockQ_e;exact rfl)|(apply thenQ_r)|(apply blockQ_r)|(apply OK_condT;exact rfl)|(apply OK_condF;exact rfl)|(apply OK_skip)|(apply OK_exit)|(apply OK_ret)|(apply OKx_move;(conv=>lhs;whnf)<;>exact rfl)|(apply OKx_assign;(conv=>lhs;whnf)<;>exact rfl)|(apply OKx_ldB;exact rfl;(first | exact at0|exact at1|exact at2|exact at3|exact at4|exact at5|exact at6|exact at7);exact rfl)|(apply OKx_ldR;(conv=>lhs;whnf)<;>exact rfl;(with_reducible assumption))|(apply OKx_lss;exact rfl;exact rfl;all_goals (intro _; try (exfalso;omega)))|(apply OKx_gtr;exact rfl;exact rfl;all_goals (intro _; try (exfalso;omega)))|(apply OKx_idxO;exact rfl;exact rfl;omega)|(apply OKx_idxR;(conv=>lhs;whnf)<;>exact rfl;(with_reducible assumption);exact rfl;omega;intro _ _)|(apply OKx_idxOz;exact rfl;exact rfl;omega;omega)|(apply OKx_idxRz;(conv=>lhs;whnf)<;>exact rfl;(with_reducible assumption);exact rfl;omega;omega;intro _ _)|(apply OKx_inc;exact rfl;exact rfl;omega)|(apply OKx_addN;exact rfl;exact rfl;omega)|(apply OKx_add;exact rfl;exact rfl;omega;omega)|(apply OKx_dec;exact rfl;exact rfl;omega;omega)|(apply OKx_subN;exact rfl;exact rfl;omega;omega)|(apply OKx_sub;exact rfl;exact rfl;omega;omega)|(apply OKx_pickT;exact rfl;(conv=>lhs;whnf)<;>exact rfl)|(apply OKx_pickF;exact rfl;(conv=>lhs;whnf)<;>exact rfl)|(apply OKx_guardT;exact rfl;exact rfl)|(apply OKx_guardF;exact rfl;exact rfl)|(apply OKx_guardU;exact rfl;exact rfl)|(apply OKx_stB;exact rfl;(conv=>lhs;whnf)<;>exact rfl;exact rfl;exact rfl;(first | exact at0|exact at1|exact at2|exact at3|exact at4|exact at5|exact at6|exact at7);exact rfl;exact rfl;exact rfl))
  refine OK_loop1 8 [8, 9, 12, 13, 14, 15, 16, 17, 18, 19, 20, 21, 22, 23, 24, 25, 26, 27, 28, 29, 30, 31, 32, 33, 34, 35, 36, 37, 38, 39, 40, 41, 42, 43, 44, 45, 46, 47, 48, 49, 50, 51, 52] (fun m v L => v = .int .i64 1 ∧ L = []) 0 _ (Ent.refl _ _) ⟨rfl, rfl⟩ ?_
  rintro m v L G ⟨rfl, rfl⟩
  repeat' (first|(apply OK_seq)|(apply thenQ_n)|(apply OK_region)|(refine OK_rid 4 ?_; refine OK_quiet (id := 4) (by kernel_rfl) (by kernel_rfl) ?_)|(refine OK_rid 6 ?_; refine OK_mix [2, 3, 4] [0, 1, 5, 6, 7, 8, 9, 10, 11, 12, 13, 14] [] [15, 16, 17] [] (id := 6) (by kernel_rfl) (by kernel_rfl) rfl (Ent.nil) (by ((try simp only [pickO, nthO, List.cons_append, List.nil_append]) <;> exact rfl)) (by ((try simp only [pickO, nthO, List.cons_append, List.nil_append]) <;> exact rfl)) (by ((try simp only [pickO]) <;> exact rfl)) (by ((try simp only [pickO, nthO, List.cons_append, List.nil_append]) <;> exact rfl)) ?_)|(apply OKx_nilK)|(apply OK_block)|(apply blockQ_n)|(apply blockQ_s)|(apply thenQ_e)|(apply blockQ_e;exact rfl)|(apply thenQ_r)|(apply blockQ_r)|(apply OK_condT;exact rfl)|(apply OK_condF;exact rfl)|(apply OK_skip)|(apply OK_exit)|(apply OK_ret)|(apply OKx_move;(conv=>lhs;whnf)<;>exact rfl)|(apply OKx_assign;(conv=>lhs;whnf)<;>exact rfl)|(apply OKx_ldB;exact rfl;(first | exact at0|exact at1|exact at2|exact at3|exact at4|exact at5|exact at6|exact at7);exact rfl)|(apply OKx_ldR;(conv=>lhs;whnf)<;>exact rfl;(with_reducible assumption))|(apply OKx_lss;exact rfl;exact rfl;all_goals (intro _; try (exfalso;omega)))|(apply OKx_gtr;exact rfl;exact rfl;all_goals (intro _; try (exfalso;omega)))|(apply OKx_idxO;exact rfl;exact rfl;omega)|(apply OKx_idxR;(conv=>lhs;whnf)<;>exact rfl;(with_reducible assumption);exact rfl;omega;intro _ _)|(apply OKx_idxOz;exact rfl;exact rfl;omega;omega)|(apply OKx_idxRz;(conv=>lhs;whnf)<;>exact rfl;(with_reducible assumption);exact rfl;omega;omega;intro _ _)|(apply OKx_inc;exact rfl;exact rfl;omega)|(apply OKx_addN;exact rfl;exact rfl;omega)|(apply OKx_add;exact rfl;exact rfl;omega;omega)|(apply OKx_dec;exact rfl;exact rfl;omega;omega)|(apply OKx_subN;exact rfl;exact rfl;omega;omega)|(apply OKx_sub;exact rfl;exact rfl;omega;omega)|(apply OKx_pickT;exact rfl;(conv=>lhs;whnf)<;>exact rfl)|(apply OKx_pickF;exact rfl;(conv=>lhs;whnf)<;>exact rfl)|(apply OKx_guardT;exact rfl;exact rfl)|(apply OKx_guardF;exact rfl;exact rfl)|(apply OKx_guardU;exact rfl;exact rfl)|(apply OKx_stB;exact rfl;(conv=>lhs;whnf)<;>exact rfl;exact rfl;exact rfl;(first | exact at0|exact at1|exact at2|exact at3|exact at4|exact at5|exact at6|exact at7);exact rfl;exact rfl;exact rfl))
  first | refine bodyQ_r0 ?_ | refine bodyQ_n0 ?_
  exact ⟨_, Ent.refl _ _, rfl, rfl⟩
set_option maxRecDepth 100000 in
set_option maxHeartbeats 4000000 in
theorem pdq0C_sat (z : Int) (w : World) : SatV Tryz.prog 57 [.slice none 0 0, .int .i64 0, .int .i64 0, .int .i64 z, .func (.func 35) #[] #[]] w (.tuple #[]) := by
  refine SatL.of 148 [] Tryz.func57 (by kernel_rfl) (by kernel_rfl) rfl rfl rfl rfl ?_
  repeat' (first|(apply OK_seq)|(apply thenQ_n)|(apply OK_region)|(refine OK_rid 17 ?_; refine OK_quiet (id := 17) (by kernel_rfl) (by kernel_rfl) ?_)|(apply OKx_nilK)|(apply OK_block)|(apply blockQ_n)|(apply blockQ_s)|(apply thenQ_e)|(apply blockQ_e;exact rfl)|(apply thenQ_r)|(apply blockQ_r)|(apply OK_condT;exact rfl)|(apply OK_condF;exact rfl)|(apply OK_skip)|(apply OK_exit)|(apply OK_ret)|(apply OKx_move;(conv=>lhs;whnf)<;>exact rfl)|(apply OKx_assign;(conv=>lhs;whnf)<;>exact rfl)|(apply OKx_ldB;exact rfl;(first | exact at0|exact at1|exact at2|exact at3|exact at4|exact at5|exact at6|exact at7);exact rfl)|(apply OKx_ldR;(conv=>lhs;whnf)<;>exact rfl;(with_reducible assumption))|(apply OKx_lss;exact rfl;exact rfl;all_goals (intro _; try (exfalso;omega)))|(apply OKx_leq;exact rfl;exact rfl;all_goals (intro _; try (exfalso;omega)))|(apply OKx_gtr;exact rfl;exact rfl;all_goals (intro _; try (exfalso;omega)))|(apply OKx_geq;exact rfl;exact rfl;all_goals (intro _; try (exfalso;omega)))|(apply OKx_eql;exact rfl;exact rfl;all_goals (intro _; try (exfalso;omega)))|(apply OKx_idxO;exact rfl;exact rfl;omega)|(apply OKx_idxR;(conv=>lhs;whnf)<;>exact rfl;(with_reducible assumption);exact rfl;omega;intro _ _)|(apply OKx_idxOz;exact rfl;exact rfl;omega;omega)|(apply OKx_idxRz;(conv=>lhs;whnf)<;>exact rfl;(with_reducible assumption);exact rfl;omega;omega;intro _ _)|(apply OKx_inc;exact rfl;exact rfl;omega)|(apply OKx_addN;exact rfl;exact rfl;omega)|(apply OKx_add;exact rfl;exact rfl;omega;omega)|(apply OKx_dec;exact rfl;exact rfl;omega;omega)|(apply OKx_subN;exact rfl;exact rfl;omega;omega)|(apply OKx_sub;exact rfl;exact rfl;omega;omega)|(apply OKx_pickT;exact rfl;(conv=>lhs;whnf)<;>exact rfl)|(apply OKx_pickF;exact rfl;(conv=>lhs;whnf)<;>exact rfl)|(apply OKx_guardT;exact rfl;exact rfl)|(apply OKx_guardF;exact rfl;exact rfl)|(apply OKx_guardU;exact rfl;exact rfl)|(apply OKx_notT;exact rfl)|(apply OKx_notF;exact rfl)|(apply OKx_extract;exact rfl;(conv=>lhs;whnf)<;>exact rfl))
  refine OK_loop2 1 2 [1, 2, 3, 10, 11, 12, 13, 14, 15, 16, 17, 18, 19, 20, 21, 22, 23, 24, 25, 26, 27, 28, 29, 30, 31, 32, 33, 34, 35, 36, 37, 38, 39, 40, 41, 42, 43, 44, 45, 46, 47, 48, 49, 50, 51, 52, 53, 54, 55, 56, 57, 58, 59, 60, 61, 62, 63, 64, 65, 66, 67, 68, 69, 70, 71, 72, 73, 74, 75, 76, 77, 78, 79, 80, 81, 82, 83, 84, 85, 86, 87, 88, 89, 90, 91, 92, 93, 94, 95, 96, 97, 98, 99, 100, 101, 102, 103, 104, 105, 106, 107, 108, 109, 110, 111, 112, 113, 114, 115, 116, 117, 118, 119, 120, 121, 122, 123, 124, 125, 126, 127, 128, 129, 130, 131, 132, 133, 134, 135, 136, 137, 138, 139, 140, 141, 142, 143, 144, 145, 146, 147] (fun m v v2 L => v = .int .i64 0 ∧ v2 = .int .i64 0 ∧ L = []) 0 _ (Ent.refl _ _) ⟨rfl, rfl, rfl⟩ ?_
  rintro m v v2 L G ⟨rfl, rfl, rfl⟩
  repeat' (first|(apply OK_seq)|(apply thenQ_n)|(apply OK_region)|(apply OKx_gc 79;exact rfl; refine OKx_callV (f := 79) rfl rfl rfl (fun w1 hp => ins0C_sat w1) ?_)|(refine OK_rid 17 ?_; refine OK_quiet (id := 17) (by kernel_rfl) (by kernel_rfl) ?_)|(apply OKx_nilK)|(apply OK_block)|(apply blockQ_n)|(apply blockQ_s)|(apply thenQ_e)|(apply blockQ_e;exact rfl)|(apply thenQ_r)|(apply blockQ_r)|(apply OK_condT;exact rfl)|(apply OK_condF;exact rfl)|(apply OK_skip)|(apply OK_exit)|(apply OK_ret)|(apply OKx_move;(conv=>lhs;whnf)<;>exact rfl)|(apply OKx_assign;(conv=>lhs;whnf)<;>exact rfl)|(apply OKx_ldB;exact rfl;(first | exact at0|exact at1|exact at2|exact at3|exact at4|exact at5|exact at6|exact at7);exact rfl)|(apply OKx_ldR;(conv=>lhs;whnf)<;>exact rfl;(with_reducible assumption))|(apply OKx_lss;exact rfl;exact rfl;all_goals (intro _; try (exfalso;omega)))|(apply OKx_leq;exact rfl;exact rfl;all_goals (intro _; try (exfalso;omega)))|(apply OKx_gtr;exact rfl;exact rfl;all_goals (intro _; try (exfalso;omega)))|(apply OKx_geq;exact rfl;exact rfl;all_goals (intro _; try (exfalso;omega)))|(apply OKx_eql;exact rfl;exact rfl;all_goals (intro _; try (exfalso;omega)))|(apply OKx_idxO;exact rfl;exact rfl;omega)|(apply OKx_idxR;(conv=>lhs;whnf)<;>exact rfl;(with_reducible assumption);exact rfl;omega;intro _ _)|(apply OKx_idxOz;exact rfl;exact rfl;omega;omega)|(apply OKx_idxRz;(conv=>lhs;whnf)<;>exact rfl;(with_reducible assumption);exact rfl;omega;omega;intro _ _)|(apply OKx_inc;exact rfl;exact rfl;omega)|(apply OKx_addN;exact rfl;exact rfl;omega)|(apply OKx_add;exact rfl;exact rfl;omega;omega)|(apply OKx_dec;exact rfl;exact rfl;omega;omega)|(apply OKx_subN;exact rfl;exact rfl;omega;omega)|(apply OKx_sub;exact rfl;exact rfl;omega;omega)|(apply OKx_pickT;exact rfl;(conv=>lhs;whnf)<;>exact rfl)|(apply OKx_pickF;exact rfl;(conv=>lhs;whnf)<;>exact rfl)|(apply OKx_guardT;exact rfl;exact rfl)|(apply OKx_guardF;exact rfl;exact rfl)|(apply OKx_guardU;exact rfl;exact rfl)|(apply OKx_notT;exact rfl)|(apply OKx_notF;exact rfl)|(apply OKx_extract;exact rfl;(conv=>lhs;whnf)<;>exact rfl))
  first | refine bodyQ_r0 ?_ | refine bodyQ_n0 ?_
  exact ⟨_, Ent.refl _ _, rfl, rfl⟩
set_option maxRecDepth 100000 in
set_option maxHeartbeats 4000000 in
theorem sortF0_sat (w : World) : SatV Tryz.prog 34 [.slice none 0 0, .func (.func 35) #[] #[]] w (.tuple #[]) := by
  refine SatL.of 14 [] Tryz.func34 (by kernel_rfl) (by kernel_rfl) rfl rfl rfl rfl ?_
  repeat' (first|(apply OK_seq)|(apply thenQ_n)|(apply OK_region)|(refine OKx_convUn (z := 0) rfl (by omega) (by kernel_rfl) (by kernel_rfl) ?_)|(apply OKx_gc 43;exact rfl; refine OKx_callV (f := 43) rfl rfl rfl (fun w1 hp => bitsLenN_sat 0 (by omega) w1) ?_)|(apply OKx_gc 57;exact rfl; refine OKx_callV (f := 57) rfl rfl rfl (fun w1 hp => pdq0C_sat _ w1) ?_)|(apply OKx_nilK)|(apply OK_block)|(apply blockQ_n)|(apply blockQ_s)|(apply thenQ_e)|(apply blockQ_e;exact rfl)|(apply thenQ_r)|(apply blockQ_r)|(apply OK_condT;exact rfl)|(apply OK_condF;exact rfl)|(apply OK_skip)|(apply OK_exit)|(apply OK_ret)|(apply OKx_move;(conv=>lhs;whnf)<;>exact rfl)|(apply OKx_assign;(conv=>lhs;whnf)<;>exact rfl)|(apply OKx_len;exact rfl)|(apply OKx_lenR;(conv=>lhs;whnf)<;>exact rfl;(with_reducible assumption))|(apply OKx_lenR2;(conv=>lhs;whnf)<;>exact rfl;(with_reducible assumption))|(apply OKx_lenO;(conv=>lhs;whnf)<;>exact rfl;(first | exact at0|exact at1|exact at2|exact at3|exact at4|exact at5|exact at6|exact at7)))
  first | refine bodyQ_r0 ?_ | refine bodyQ_n0 ?_
  exact ⟨_, Ent.refl _ _, rfl, rfl⟩
set_option maxRecDepth 100000 in
set_option maxHeartbeats 4000000 in
theorem compF0_sat (w : World) : SatV Tryz.prog 36 [.slice none 0 0, .func (.func 15) #[] #[]] w (.slice none 0 0) := by
  refine SatL.of 66 [4] Tryz.func36 (by kernel_rfl) (by kernel_rfl) rfl rfl rfl rfl ?_
  repeat' (first|(apply OK_seq)|(apply thenQ_n)|(apply OK_region)|(refine OK_rid 6 ?_; refine OK_quiet (id := 6) (by kernel_rfl) (by kernel_rfl) ?_)|(refine OK_rid 11 ?_; refine OK_quiet (id := 11) (by kernel_rfl) (by kernel_rfl) ?_)|(apply OKx_nilK)|(apply OK_block)|(apply blockQ_n)|(apply blockQ_s)|(apply thenQ_e)|(apply blockQ_e;exact rfl)|(apply thenQ_r)|(apply blockQ_r)|(apply OK_condT;exact rfl)|(apply OK_condF;exact rfl)|(apply OK_skip)|(apply OK_exit)|(apply OK_ret)|(apply OKx_move;(conv=>lhs;whnf)<;>exact rfl)|(apply OKx_assign;(conv=>lhs;whnf)<;>exact rfl)|(apply OKx_ldB;exact rfl;(first | exact at0|exact at1|exact at2|exact at3|exact at4|exact at5|exact at6|exact at7);exact rfl)|(apply OKx_ldR;(conv=>lhs;whnf)<;>exact rfl;(with_reducible assumption))|(apply OKx_len;exact rfl)|(apply OKx_lenR;(conv=>lhs;whnf)<;>exact rfl;(with_reducible assumption))|(apply OKx_lenR2;(conv=>lhs;whnf)<;>exact rfl;(with_reducible assumption))|(apply OKx_lenO;(conv=>lhs;whnf)<;>exact rfl;(first | exact at0|exact at1|exact at2|exact at3|exact at4|exact at5|exact at6|exact at7))|(apply OKx_lss;exact rfl;exact rfl;all_goals (intro _; try (exfalso;omega)))|(apply OKx_idxO;exact rfl;exact rfl;omega)|(apply OKx_idxR;(conv=>lhs;whnf)<;>exact rfl;(with_reducible assumption);exact rfl;omega;intro _ _)|(apply OKx_idxOz;exact rfl;exact rfl;omega;omega)|(apply OKx_idxRz;(conv=>lhs;whnf)<;>exact rfl;(with_reducible assumption);exact rfl;omega;omega;intro _ _)|(apply OKx_inc;exact rfl;exact rfl;omega)|(apply OKx_addN;exact rfl;exact rfl;omega)|(apply OKx_add;exact rfl;exact rfl;omega;omega)|(apply OKx_dec;exact rfl;exact rfl;omega;omega)|(apply OKx_subN;exact rfl;exact rfl;omega;omega)|(apply OKx_sub;exact rfl;exact rfl;omega;omega)|(apply OKx_notT;exact rfl)|(apply OKx_notF;exact rfl)|(apply OKx_stB;exact rfl;(conv=>lhs;whnf)<;>exact rfl;exact rfl;exact rfl;(first | exact at0|exact at1|exact at2|exact at3|exact at4|exact at5|exact at6|exact at7);exact rfl;exact rfl;exact rfl))
  refine bodyQ_r1 (by ((conv=>lhs;whnf)<;>exact rfl)) ?_
  exact ⟨_, Ent.refl _ _, rfl, rfl⟩
theorem Ints_inj {w : World} {v : Value} {xs ys : List Int} (h : Ints w v xs) (k : Ints w v ys) : xs = ys := by
  obtain ⟨a, c, rfl, hc⟩ := h.sl.out
  obtain ⟨a2, c2, hv, hc2⟩ := k.sl.out
  simp only [Value.slice.injEq] at hv
  obtain ⟨rfl, hl, rfl⟩ := hv
  refine List.ext_getElem hl fun j h1 h2 => ?_
  rcases hc with h0 | ⟨b, off, rfl, hc⟩
  · omega
  rcases hc2 with h0 | ⟨b2, off2, hb2, hc2⟩
  · omega
  simp only [Option.some.injEq, Addr.mk.injEq] at hb2
  obtain ⟨rfl, rfl, _⟩ := hb2
  have e1 := hc j (by omega)
  have e2 := hc2 j (by omega)
  rw [e1] at e2
  simp only [Option.some.injEq, Value.int.injEq, true_and] at e2
  rwa [getD_lt _ _ _ h1, getD_lt _ _ _ h2] at e2
def outL (t : Tre) (l : List (Value × Nat)) : List (List Int) := ((l.map (·.2)).filter (okS t)).map (nrmL t)
theorem outL_snoc (t : Tre) (l : List (Value × Nat)) (q : Value × Nat) : outL t (l ++ [q]) = outL t l ++ if okS t q.2 = true then [nrmL t q.2] else [] := by
  unfold outL
  rw [List.map_append, List.filter_append, List.map_append]
  congr 1
  cases h : okS t q.2 <;> simp [h]
theorem outL_len (t : Tre) (l : List (Value × Nat)) : (outL t l).length ≤ l.length := by
  unfold outL
  rw [List.length_map]
  have := List.length_filter_le (okS t) (l.map (·.2))
  rwa [List.length_map] at this
def OfJ (t : Tre) (go gN : Nat) (l : List (Value × Nat)) (J : List Res) : Prop :=
  ∃ (vs : List Value) (a : Option Addr) (c : Nat) (Zr : List Res), vs.length = (outL t l).length ∧ (0 < vs.length → ∃ g, a = some ⟨g, 0, none⟩) ∧ (vs.length = 0 → a = none ∧ c = 0) ∧ (∀ u ∈ vs, u.oneCell' = true ∧ u.cells = #[u]) ∧
    (∀ w0 w, Hp w0.heap.size w0 w Zr → (∀ q ∈ l, Ints w q.1 (belL t q.2)) ∧ ∀ j, j < vs.length → Ints w (vs.getD j undef) ((outL t l).getD j [])) ∧
    J = .row 22 1 (.slice a vs.length c) vs.length vs :: .box 40 go [.slice a vs.length c] :: .box 3 gN [.int .i64 ((lvs t).length : Int)] :: Zr
theorem OfJ_skip {t : Tre} {go gN : Nat} {l : List (Value × Nat)} {q : Value × Nat} {vs : List Value} {a : Option Addr} {c : Nat} {Zr Z2 : List Res} (hk : okS t q.2 = false) (h1 : vs.length = (outL t l).length) (h2 : 0 < vs.length → ∃ g, a = some ⟨g, 0, none⟩) (h3 : vs.length = 0 → a = none ∧ c = 0) (h4 : ∀ u ∈ vs, u.oneCell' = true ∧ u.cells = #[u])
    (h5 : ∀ w0 w, Hp w0.heap.size w0 w Zr → (∀ q ∈ l, Ints w q.1 (belL t q.2)) ∧ ∀ j, j < vs.length → Ints w (vs.getD j undef) ((outL t l).getD j [])) (hz : ∀ w0 w, Hp w0.heap.size w0 w Z2 → Hp w0.heap.size w0 w Zr ∧ Ints w q.1 (belL t q.2)) :
    OfJ t go gN (l ++ [q]) (.row 22 1 (.slice a vs.length c) vs.length vs :: .box 40 go [.slice a vs.length c] :: .box 3 gN [.int .i64 ((lvs t).length : Int)] :: Z2) := by
  have e : outL t (l ++ [q]) = outL t l := by rw [outL_snoc, if_neg (by rw [hk]; simp), List.append_nil]
  refine ⟨vs, a, c, Z2, by rw [e]; exact h1, h2, h3, h4, fun w0 w hp => ?_, rfl⟩
  obtain ⟨h6, h7⟩ := hz w0 w hp
  obtain ⟨h8, h9⟩ := h5 w0 w h6
  refine ⟨fun q' hq => ?_, by rw [e]; exact h9⟩
  rcases List.mem_append.1 hq with h | h
  · exact h8 q' h
  · rw [List.mem_singleton] at h; rw [h]; exact h7
theorem OfJ_add {t : Tre} {go gN g2 c2 : Nat} {l : List (Value × Nat)} {q : Value × Nat} {vs : List Value} {a : Option Addr} {m2 c3 : Nat} {Zr Z2 : List Res} (hk : okS t q.2 = true) (h1 : vs.length = (outL t l).length) (h4 : ∀ u ∈ vs, u.oneCell' = true ∧ u.cells = #[u])
    (h5 : ∀ w0 w, Hp w0.heap.size w0 w Zr → (∀ q ∈ l, Ints w q.1 (belL t q.2)) ∧ ∀ j, j < vs.length → Ints w (vs.getD j undef) ((outL t l).getD j [])) (hz : ∀ w0 w, Hp w0.heap.size w0 w Z2 → Hp w0.heap.size w0 w Zr ∧ Ints w q.1 (belL t q.2) ∧ Ints w (.slice a m2 c3) (nrmL t q.2)) :
    OfJ t go gN (l ++ [q]) (.row 22 1 (.slice (some ⟨g2, 0, none⟩) (vs.length + 1) c2) (vs.length + 1) (vs ++ [.slice a m2 c3]) :: .box 40 go [.slice (some ⟨g2, 0, none⟩) (vs.length + 1) c2] :: .box 3 gN [.int .i64 ((lvs t).length : Int)] :: Z2) := by
  have e : outL t (l ++ [q]) = outL t l ++ [nrmL t q.2] := by rw [outL_snoc, if_pos hk]
  have hl : (vs ++ [Value.slice a m2 c3]).length = vs.length + 1 := by simp
  refine ⟨vs ++ [.slice a m2 c3], some ⟨g2, 0, none⟩, c2, Z2, by rw [e, List.length_append, List.length_append, h1]; rfl, fun _ => ⟨g2, rfl⟩, fun h => absurd h (by rw [hl];omega), fun u hu => ?_, fun w0 w hp => ?_, by rw [hl]⟩
  · rcases List.mem_append.1 hu with h | h
    · exact h4 u h
    · rw [List.mem_singleton] at h; rw [h]; exact ⟨rfl, rfl⟩
  · obtain ⟨h6, h7, h10⟩ := hz w0 w hp
    obtain ⟨h8, h9⟩ := h5 w0 w h6
    refine ⟨fun q' hq => ?_, fun j hj => ?_⟩
    · rcases List.mem_append.1 hq with h | h
      · exact h8 q' h
      · rw [List.mem_singleton] at h; rw [h]; exact h7
    · rw [hl] at hj
      rw [e]
      by_cases hjv : j < vs.length
      · have h11 := h9 j hjv
        rw [List.getD_eq_getElem?_getD, List.getElem?_append_left hjv, ← List.getD_eq_getElem?_getD, List.getD_eq_getElem?_getD (l := outL t l ++ [nrmL t q.2]), List.getElem?_append_left (by omega), ← List.getD_eq_getElem?_getD]
        exact h11
      · obtain rfl : j = vs.length := by omega
        rw [List.getD_eq_getElem?_getD, List.getElem?_append_right (by omega), Nat.sub_self, List.getD_eq_getElem?_getD (l := outL t l ++ [nrmL t q.2]), List.getElem?_append_right (by omega), h1, Nat.sub_self]
        exact h10
end Go.Proofs.YtpknpbeiifjmgaaGreat
