/-
  Part 24 of the proof: Cl33, Of33. No statement of the seat is proved here.
-/
import Derived.Test.YtpknpbeiifjmgaaGreatMHPs3323
namespace Go.Proofs.YtpknpbeiifjmgaaGreat
open Go.RowKit
section
variable {P : Program} {n : Nat} {w0 : World} {Q : Exit → Fm → List Res → Prop} {K : Fm → List Res → Prop} {F : Fm} {L : List Res} {m : Md} {ops : Array Oper} {rest : List Oper} {d : Option Nat} {ty : TypeId} {pos : String} {aft : Array Edge}
theorem OKx_idxOp {t e bytes : Nat} {z : Value} [T : TSlice P t e 1 bytes z] {x ix : Operand} {g o N cap : Nat} {k : IntKind} {i p : Nat} (hx : rv n F x = .slice (some ⟨g, o, none⟩) N cap) (hix : rv n F ix = .int k (i : Int)) (h1 : i < N) (hp : o + i = p)
    (kk : OKx P n w0 m ops K rest (updo F d (.pointer (some ⟨g, p, none⟩))) L) : OKx P n w0 m ops K (⟨d, .indexAddr t x ix, ty, pos, aft, none⟩ :: rest) F L := by
  refine OKx_idxOs hx hix (by omega) (by omega) ?_
  rw [show o + ((i : Int).toNat) * 1 = p by omega]
  exact kk
theorem OK_worldC {c : Code} (h : ∀ w, Hp w0.heap.size w0 w L → OK P n w0 Q c F L) : OK P n w0 Q c F L := OK.mk' fun w a hf hp => (h w hp).use w a hf hp
end
def CmpP (Fi : Value → List Int) (vs vs' : List Value) : Prop := (∀ u ∈ vs', u ∈ vs) ∧ (∀ u ∈ vs, ∃ u' ∈ vs', Fi u' = Fi u) ∧ ((∀ u ∈ vs, ∀ u' ∈ vs, Fi u = Fi u') → vs'.length ≤ 1) ∧ vs'.length ≤ vs.length
def CmpR (Fi : Value → List Int) (g : Nat) (vs : List Value) (X : List Res) (u : Value) (L : List Res) : Prop := ∃ c vs', CmpP Fi vs vs' ∧ u = .slice (some ⟨g, 0, none⟩) vs'.length c ∧ L = .row 22 1 (.slice (some ⟨g, 0, none⟩) vs'.length c) vs'.length vs' :: X
set_option maxRecDepth 100000 in
set_option maxHeartbeats 4000000 in
theorem compF_sat (g c n : Nat) (vs : List Value) (X : List Res) (w0 : World) (Fi : Value → List Int) (hn : vs.length = n) (hn2 : n ≤ 1000) (hone : ∀ u ∈ vs, u.oneCell' = true ∧ u.cells = #[u]) (hX : ∀ w, Hp w0.heap.size w0 w X → ∀ u ∈ vs, Ints w u (Fi u)) :
    SatL Tryz.prog 36 [.slice (some ⟨g, 0, none⟩) n c, .func (.func 15) #[] #[]] w0 (.row 22 1 (.slice (some ⟨g, 0, none⟩) n c) n vs :: X) (CmpR Fi g vs X) := by
  refine SatL.of 66 [4] Tryz.func36 (by kernel_rfl) (by kernel_rfl) rfl rfl rfl rfl ?_
  refine OK_worldC fun wx hpx => ?_
  have hcap : n ≤ c := by
    have ho : wx.ownsRow w0.heap.size 22 1 (.slice (some ⟨g, 0, none⟩) n c) n vs := hpx.ok _ List.mem_cons_self
    rcases ho.2 with ⟨h, _⟩ | ⟨g', cap', cur, h, _, _, h2, _⟩
    · cases h
    · cases h; exact h2
  clear hpx
  by_cases hn1 : n < 2
  · repeat' (first|(apply OK_seq)|(apply thenQ_n)|(apply OK_region)|(refine OK_rid 6 ?_; refine OK_quiet (id := 6) (by kernel_rfl) (by kernel_rfl) ?_)|(refine OK_rid 11 ?_; refine OK_quiet (id := 11) (by kernel_rfl) (by kernel_rfl) ?_)|(apply OKx_nilK)|(apply OK_block)|(apply blockQ_n)|(apply blockQ_s)|(apply thenQ_e)|(apply blockQ_e;exact rfl)|(apply thenQ_r)|(apply blockQ_r)|(apply OK_condT;exact rfl)|(apply OK_condF;exact rfl)|(apply OK_skip)|(apply OK_exit)|(apply OK_ret)|(apply OKx_move;(conv=>lhs;whnf)<;>exact rfl)|(apply OKx_assign;(conv=>lhs;whnf)<;>exact rfl)|(apply OKx_ldB;exact rfl;(first | exact at0|exact at1|exact at2|exact at3|exact at4|exact at5|exact at6|exact at7);exact rfl)|(apply OKx_ldR;(conv=>lhs;whnf)<;>exact rfl;(with_reducible assumption))|(apply OKx_len;exact rfl)|(apply OKx_lenR;(conv=>lhs;whnf)<;>exact rfl;(with_reducible assumption))|(apply OKx_lenR2;(conv=>lhs;whnf)<;>exact rfl;(with_reducible assumption))|(apply OKx_lenO;(conv=>lhs;whnf)<;>exact rfl;(first | exact at0|exact at1|exact at2|exact at3|exact at4|exact at5|exact at6|exact at7))|(apply OKx_lss;exact rfl;exact rfl;all_goals (intro _; try (exfalso;omega)))|(apply OKx_idxO;exact rfl;exact rfl;omega)|(apply OKx_idxR;(conv=>lhs;whnf)<;>exact rfl;(with_reducible assumption);exact rfl;omega;intro _ _)|(apply OKx_idxOz;exact rfl;exact rfl;omega;omega)|(apply OKx_idxRz;(conv=>lhs;whnf)<;>exact rfl;(with_reducible assumption);exact rfl;omega;omega;intro _ _)|(apply OKx_inc;exact rfl;exact rfl;omega)|(apply OKx_addN;exact rfl;exact rfl;omega)|(apply OKx_add;exact rfl;exact rfl;omega;omega)|(apply OKx_dec;exact rfl;exact rfl;omega;omega)|(apply OKx_subN;exact rfl;exact rfl;omega;omega)|(apply OKx_sub;exact rfl;exact rfl;omega;omega)|(apply OKx_notT;exact rfl)|(apply OKx_notF;exact rfl)|(apply OKx_stB;exact rfl;(conv=>lhs;whnf)<;>exact rfl;exact rfl;exact rfl;(first | exact at0|exact at1|exact at2|exact at3|exact at4|exact at5|exact at6|exact at7);exact rfl;exact rfl;exact rfl))
    refine bodyQ_r1 (by ((conv=>lhs;whnf)<;>exact rfl)) ?_
    subst hn
    exact ⟨_, Ent.refl _ _, c, vs, ⟨fun u h => h, fun u h => ⟨u, h, rfl⟩, fun _ => by omega, Nat.le_refl _⟩, rfl, rfl⟩
  repeat' (first|(apply OK_seq)|(apply thenQ_n)|(apply OK_region)|(refine OK_rid 6 ?_; refine OK_quiet (id := 6) (by kernel_rfl) (by kernel_rfl) ?_)|(refine OK_rid 11 ?_; refine OK_quiet (id := 11) (by kernel_rfl) (by kernel_rfl) ?_)|(apply OKx_nilK)|(apply OK_block)|(apply blockQ_n)|(apply blockQ_s)|(apply thenQ_e)|(apply blockQ_e;exact rfl)|(apply thenQ_r)|(apply blockQ_r)|(apply OK_condT;exact rfl)|(apply OK_condF;exact rfl)|(apply OK_skip)|(apply OK_exit)|(apply OK_ret)|(apply OKx_move;(conv=>lhs;whnf)<;>exact rfl)|(apply OKx_assign;(conv=>lhs;whnf)<;>exact rfl)|(apply OKx_ldB;exact rfl;(first | exact at0|exact at1|exact at2|exact at3|exact at4|exact at5|exact at6|exact at7);exact rfl)|(apply OKx_ldR;(conv=>lhs;whnf)<;>exact rfl;(with_reducible assumption))|(apply OKx_len;exact rfl)|(apply OKx_lenR;(conv=>lhs;whnf)<;>exact rfl;(with_reducible assumption))|(apply OKx_lenR2;(conv=>lhs;whnf)<;>exact rfl;(with_reducible assumption))|(apply OKx_lenO;(conv=>lhs;whnf)<;>exact rfl;(first | exact at0|exact at1|exact at2|exact at3|exact at4|exact at5|exact at6|exact at7))|(apply OKx_lss;exact rfl;exact rfl;all_goals (intro _; try (exfalso;omega)))|(apply OKx_idxO;exact rfl;exact rfl;omega)|(apply OKx_idxR;(conv=>lhs;whnf)<;>exact rfl;(with_reducible assumption);exact rfl;omega;intro _ _)|(apply OKx_idxOz;exact rfl;exact rfl;omega;omega)|(apply OKx_idxRz;(conv=>lhs;whnf)<;>exact rfl;(with_reducible assumption);exact rfl;omega;omega;intro _ _)|(apply OKx_inc;exact rfl;exact rfl;omega)|(apply OKx_addN;exact rfl;exact rfl;omega)|(apply OKx_add;exact rfl;exact rfl;omega;omega)|(apply OKx_dec;exact rfl;exact rfl;omega;omega)|(apply OKx_subN;exact rfl;exact rfl;omega;omega)|(apply OKx_sub;exact rfl;exact rfl;omega;omega)|(apply OKx_notT;exact rfl)|(apply OKx_notF;exact rfl)|(apply OKx_stB;exact rfl;(conv=>lhs;whnf)<;>exact rfl;exact rfl;exact rfl;(first | exact at0|exact at1|exact at2|exact at3|exact at4|exact at5|exact at6|exact at7);exact rfl;exact rfl;exact rfl))
  have hget : ∀ j, j < n → ∃ u, vs[j]? = some u ∧ u ∈ vs := fun j hj => ⟨vs[j]'(by omega), List.getElem?_eq_getElem (by omega), List.getElem_mem _⟩
  refine OK_loop1 5 [4, 5, 6, 7, 12, 13, 14, 15, 16, 17, 18, 19, 20, 21, 22, 23, 24, 25, 26, 27, 28, 29, 30, 31, 32, 33, 34, 35, 36, 37, 38, 39, 40, 41, 42, 43, 44, 45, 46, 47, 48, 49, 50, 51, 52, 53, 54, 55, 56, 57, 58, 59, 60, 61, 62, 63, 64] (fun m v L => ∃ k : Nat, k + m = n ∧ 1 ≤ k ∧ v = .int .i64 (k : Int) ∧ ((∀ u ∈ vs, ∀ u' ∈ vs, Fi u = Fi u') → k = 1) ∧ L = .row 22 1 (.slice (some ⟨g, 0, none⟩) n c) n vs :: X) (n - 1) _ (Ent.refl _ _) ⟨1, by omega, by omega, rfl, fun _ => rfl, rfl⟩ ?_
  rintro m v L G ⟨k, hm, hk1, rfl, hall, rfl⟩
  by_cases hk : k < n
  rotate_left
  · obtain rfl : k = n := by omega
    repeat' (first|(apply OK_seq)|(apply thenQ_n)|(apply OK_region)|(refine OK_rid 6 ?_; refine OK_quiet (id := 6) (by kernel_rfl) (by kernel_rfl) ?_)|(refine OK_rid 11 ?_; refine OK_quiet (id := 11) (by kernel_rfl) (by kernel_rfl) ?_)|(apply OKx_nilK)|(apply OK_block)|(apply blockQ_n)|(apply blockQ_s)|(apply thenQ_e)|(apply blockQ_e;exact rfl)|(apply thenQ_r)|(apply blockQ_r)|(apply OK_condT;exact rfl)|(apply OK_condF;exact rfl)|(apply OK_skip)|(apply OK_exit)|(apply OK_ret)|(apply OKx_move;(conv=>lhs;whnf)<;>exact rfl)|(apply OKx_assign;(conv=>lhs;whnf)<;>exact rfl)|(apply OKx_ldB;exact rfl;(first | exact at0|exact at1|exact at2|exact at3|exact at4|exact at5|exact at6|exact at7);exact rfl)|(apply OKx_ldR;(conv=>lhs;whnf)<;>exact rfl;(with_reducible assumption))|(apply OKx_len;exact rfl)|(apply OKx_lenR;(conv=>lhs;whnf)<;>exact rfl;(with_reducible assumption))|(apply OKx_lenR2;(conv=>lhs;whnf)<;>exact rfl;(with_reducible assumption))|(apply OKx_lenO;(conv=>lhs;whnf)<;>exact rfl;(first | exact at0|exact at1|exact at2|exact at3|exact at4|exact at5|exact at6|exact at7))|(apply OKx_lss;exact rfl;exact rfl;all_goals (intro _; try (exfalso;omega)))|(apply OKx_idxO;exact rfl;exact rfl;omega)|(apply OKx_idxR;(conv=>lhs;whnf)<;>exact rfl;(with_reducible assumption);exact rfl;omega;intro _ _)|(apply OKx_idxOz;exact rfl;exact rfl;omega;omega)|(apply OKx_idxRz;(conv=>lhs;whnf)<;>exact rfl;(with_reducible assumption);exact rfl;omega;omega;intro _ _)|(apply OKx_inc;exact rfl;exact rfl;omega)|(apply OKx_addN;exact rfl;exact rfl;omega)|(apply OKx_add;exact rfl;exact rfl;omega;omega)|(apply OKx_dec;exact rfl;exact rfl;omega;omega)|(apply OKx_subN;exact rfl;exact rfl;omega;omega)|(apply OKx_sub;exact rfl;exact rfl;omega;omega)|(apply OKx_notT;exact rfl)|(apply OKx_notF;exact rfl)|(apply OKx_stB;exact rfl;(conv=>lhs;whnf)<;>exact rfl;exact rfl;exact rfl;(first | exact at0|exact at1|exact at2|exact at3|exact at4|exact at5|exact at6|exact at7);exact rfl;exact rfl;exact rfl))
    refine bodyQ_r1 (by ((conv=>lhs;whnf)<;>exact rfl)) ?_
    subst hn
    exact ⟨_, Ent.refl _ _, c, vs, ⟨fun u h => h, fun u h => ⟨u, h, rfl⟩, fun h => by have := hall h;omega, Nat.le_refl _⟩, rfl, rfl⟩
  obtain ⟨u1, hu1, hm1⟩ := hget k hk
  obtain ⟨u2, hu2, hm2⟩ := hget (k - 1) (by omega)
  have heq := fun w1 (hp : Hp w0.heap.size w0 w1 X) => equal_int_sat u1 u2 (Fi u1) (Fi u2) w1 (hX w1 hp u1 hm1) (hX w1 hp u2 hm2)
  by_cases he : Fi u1 = Fi u2
  rotate_left
  · have hb : (Fi u1 == Fi u2) = false := by simpa using he
    rw [hb] at heq
    repeat' (first|(apply OK_seq)|(apply thenQ_n)|(apply OK_region)|(apply OKx_gl; refine OKx_ldW 0 rfl rfl (by omega) hu1 ?_)|(apply OKx_gl; refine OKx_ldW 0 rfl rfl (by omega) hu2 ?_)|(apply OKx_gc 15;exact rfl; refine OKx_callV (f := 15) rfl rfl rfl (fun w1 hp => heq w1 hp.drop1) ?_)|(refine OK_rid 6 ?_; refine OK_quiet (id := 6) (by kernel_rfl) (by kernel_rfl) ?_)|(refine OK_rid 11 ?_; refine OK_quiet (id := 11) (by kernel_rfl) (by kernel_rfl) ?_)|(apply OKx_nilK)|(apply OK_block)|(apply blockQ_n)|(apply blockQ_s)|(apply thenQ_e)|(apply blockQ_e;exact rfl)|(apply thenQ_r)|(apply blockQ_r)|(apply OK_condT;exact rfl)|(apply OK_condF;exact rfl)|(apply OK_skip)|(apply OK_exit)|(apply OK_ret)|(apply OKx_move;(conv=>lhs;whnf)<;>exact rfl)|(apply OKx_assign;(conv=>lhs;whnf)<;>exact rfl)|(apply OKx_ldB;exact rfl;(first | exact at0|exact at1|exact at2|exact at3|exact at4|exact at5|exact at6|exact at7);exact rfl)|(apply OKx_ldR;(conv=>lhs;whnf)<;>exact rfl;(with_reducible assumption))|(apply OKx_len;exact rfl)|(apply OKx_lenR;(conv=>lhs;whnf)<;>exact rfl;(with_reducible assumption))|(apply OKx_lenR2;(conv=>lhs;whnf)<;>exact rfl;(with_reducible assumption))|(apply OKx_lenO;(conv=>lhs;whnf)<;>exact rfl;(first | exact at0|exact at1|exact at2|exact at3|exact at4|exact at5|exact at6|exact at7))|(apply OKx_lss;exact rfl;exact rfl;all_goals (intro _; try (exfalso;omega)))|(apply OKx_idxO;exact rfl;exact rfl;omega)|(apply OKx_idxR;(conv=>lhs;whnf)<;>exact rfl;(with_reducible assumption);exact rfl;omega;intro _ _)|(apply OKx_idxOz;exact rfl;exact rfl;omega;omega)|(apply OKx_idxRz;(conv=>lhs;whnf)<;>exact rfl;(with_reducible assumption);exact rfl;omega;omega;intro _ _)|(apply OKx_inc;exact rfl;exact rfl;omega)|(apply OKx_addN;exact rfl;exact rfl;omega)|(apply OKx_add;exact rfl;exact rfl;omega;omega)|(apply OKx_dec;exact rfl;exact rfl;omega;omega)|(apply OKx_subN;exact rfl;exact rfl;omega;omega)|(apply OKx_sub;exact rfl;exact rfl;omega;omega)|(apply OKx_notT;exact rfl)|(apply OKx_notF;exact rfl)|(apply OKx_stB;exact rfl;(conv=>lhs;whnf)<;>exact rfl;exact rfl;exact rfl;(first | exact at0|exact at1|exact at2|exact at3|exact at4|exact at5|exact at6|exact at7);exact rfl;exact rfl;exact rfl))
    refine ⟨by (repeat' (first | refine agree_upd rfl ?_ | exact agree_over | exact agree_refl _ _ | refine agree_over2 rfl ?_)), m - 1, _, by omega, Ent.refl _ _, ?_⟩
    exact ⟨k + 1, by omega, by omega, rfl, fun h => absurd (h u1 hm1 u2 hm2) he, rfl⟩
  have hb : (Fi u1 == Fi u2) = true := by simpa using he
  rw [hb] at heq
  repeat' (first|(apply OK_seq)|(apply thenQ_n)|(apply OK_region)|(apply OKx_gl; refine OKx_ldW 0 rfl rfl (by omega) hu1 ?_)|(apply OKx_gl; refine OKx_ldW 0 rfl rfl (by omega) hu2 ?_)|(apply OKx_gc 15;exact rfl; refine OKx_callV (f := 15) rfl rfl rfl (fun w1 hp => heq w1 hp.drop1) ?_)|(refine OKx_slL (l := k) rfl rfl (by omega) ?_; intro o2 ho2)|(refine OK_rid 6 ?_; refine OK_quiet (id := 6) (by kernel_rfl) (by kernel_rfl) ?_)|(refine OK_rid 11 ?_; refine OK_quiet (id := 11) (by kernel_rfl) (by kernel_rfl) ?_)|(apply OKx_nilK)|(apply OK_block)|(apply blockQ_n)|(apply blockQ_s)|(apply thenQ_e)|(apply blockQ_e;exact rfl)|(apply thenQ_r)|(apply blockQ_r)|(apply OK_condT;exact rfl)|(apply OK_condF;exact rfl)|(apply OK_skip)|(apply OK_exit)|(apply OK_ret)|(apply OKx_move;(conv=>lhs;whnf)<;>exact rfl)|(apply OKx_assign;(conv=>lhs;whnf)<;>exact rfl)|(apply OKx_ldB;exact rfl;(first | exact at0|exact at1|exact at2|exact at3|exact at4|exact at5|exact at6|exact at7);exact rfl)|(apply OKx_ldR;(conv=>lhs;whnf)<;>exact rfl;(with_reducible assumption))|(apply OKx_len;exact rfl)|(apply OKx_lenR;(conv=>lhs;whnf)<;>exact rfl;(with_reducible assumption))|(apply OKx_lenR2;(conv=>lhs;whnf)<;>exact rfl;(with_reducible assumption))|(apply OKx_lenO;(conv=>lhs;whnf)<;>exact rfl;(first | exact at0|exact at1|exact at2|exact at3|exact at4|exact at5|exact at6|exact at7))|(apply OKx_lss;exact rfl;exact rfl;all_goals (intro _; try (exfalso;omega)))|(apply OKx_idxO;exact rfl;exact rfl;omega)|(apply OKx_idxR;(conv=>lhs;whnf)<;>exact rfl;(with_reducible assumption);exact rfl;omega;intro _ _)|(apply OKx_idxOz;exact rfl;exact rfl;omega;omega)|(apply OKx_idxRz;(conv=>lhs;whnf)<;>exact rfl;(with_reducible assumption);exact rfl;omega;omega;intro _ _)|(apply OKx_inc;exact rfl;exact rfl;omega)|(apply OKx_addN;exact rfl;exact rfl;omega)|(apply OKx_add;exact rfl;exact rfl;omega;omega)|(apply OKx_dec;exact rfl;exact rfl;omega;omega)|(apply OKx_subN;exact rfl;exact rfl;omega;omega)|(apply OKx_sub;exact rfl;exact rfl;omega;omega)|(apply OKx_notT;exact rfl)|(apply OKx_notF;exact rfl)|(apply OKx_stB;exact rfl;(conv=>lhs;whnf)<;>exact rfl;exact rfl;exact rfl;(first | exact at0|exact at1|exact at2|exact at3|exact at4|exact at5|exact at6|exact at7);exact rfl;exact rfl;exact rfl))
  obtain rfl : o2 = k := by have := ho2 (by omega);omega
  have hlt : ∀ (l : List Value) (j p : Nat) (u : Value), l[j]? = some u → j < p → u ∈ l.take p := fun l j p u h1 h2 => List.mem_of_getElem? (i := j) (by rw [List.getElem?_take_of_lt h2]; exact h1)
  refine OK_loop2 5 7 [5, 7, 32, 33, 34, 35, 36, 37, 38, 39, 40, 41, 42, 43, 44, 45, 46, 47, 48, 49, 50, 51, 52, 53, 54, 55, 56, 57, 58] (fun m v x L => ∃ (k k2 : Nat) (vs1 : List Value), k2 + m = n - o2 ∧ 1 ≤ k2 ∧ 1 ≤ k ∧ k + 1 ≤ o2 + k2 ∧ vs1.length = n ∧ v = .int .i64 (k : Int) ∧ x = .int .i64 (k2 : Int) ∧ (∀ j, o2 + k2 ≤ j + 1 → vs1[j]? = vs[j]?) ∧ (∀ u ∈ vs1.take k, u ∈ vs) ∧
    (∀ j u, j < o2 + k2 → vs[j]? = some u → ∃ u' ∈ vs1.take k, Fi u' = Fi u) ∧ ((∀ u ∈ vs, ∀ u' ∈ vs, Fi u = Fi u') → k = 1) ∧ L = .row 22 1 (.slice (some ⟨g, 0, none⟩) n c) n vs1 :: X) (n - o2 - 1) _ (Ent.refl _ _)
    ⟨o2, 1, vs, by omega, by omega, hk1, by omega, hn, rfl, rfl, fun j _ => rfl, fun u hu => List.mem_of_mem_take hu, fun j u hj hu => by
      by_cases hjk : j < o2
      · exact ⟨u, hlt vs j o2 u hu hjk, rfl⟩
      · obtain rfl : j = o2 := by omega
        obtain rfl : u1 = u := Option.some.inj (hu1.symm.trans hu)
        exact ⟨u2, hlt vs (j - 1) j u2 hu2 (by omega), he.symm⟩, hall, rfl⟩ ?_
  rintro m2 v x L G2 ⟨k, k2, vs1, hm2k, h21, hk1', hkk, hl1, rfl, rfl, htl, hin, hcov, hal, rfl⟩
  by_cases hk2 : k2 < n - o2
  rotate_left
  · repeat' (first|(apply OK_seq)|(apply thenQ_n)|(apply OK_region)|(refine OKx_slL (l := k) rfl rfl (by omega) ?_; intro o3 ho3)|(refine OKx_clear 0 (N := n) rfl rfl (inferInstance : TOne Tryz.prog 22 _).zero (by decide) (by omega) (by have := ho3 (by omega);omega) ?_; intro zs hzs)|(refine OKx_slH rfl rfl (by omega) ?_)|(refine OK_rid 6 ?_; refine OK_quiet (id := 6) (by kernel_rfl) (by kernel_rfl) ?_)|(refine OK_rid 11 ?_; refine OK_quiet (id := 11) (by kernel_rfl) (by kernel_rfl) ?_)|(apply OKx_nilK)|(apply OK_block)|(apply blockQ_n)|(apply blockQ_s)|(apply thenQ_e)|(apply blockQ_e;exact rfl)|(apply thenQ_r)|(apply blockQ_r)|(apply OK_condT;exact rfl)|(apply OK_condF;exact rfl)|(apply OK_skip)|(apply OK_exit)|(apply OK_ret)|(apply OKx_move;(conv=>lhs;whnf)<;>exact rfl)|(apply OKx_assign;(conv=>lhs;whnf)<;>exact rfl)|(apply OKx_ldB;exact rfl;(first | exact at0|exact at1|exact at2|exact at3|exact at4|exact at5|exact at6|exact at7);exact rfl)|(apply OKx_ldR;(conv=>lhs;whnf)<;>exact rfl;(with_reducible assumption))|(apply OKx_len;exact rfl)|(apply OKx_lenR;(conv=>lhs;whnf)<;>exact rfl;(with_reducible assumption))|(apply OKx_lenR2;(conv=>lhs;whnf)<;>exact rfl;(with_reducible assumption))|(apply OKx_lenO;(conv=>lhs;whnf)<;>exact rfl;(first | exact at0|exact at1|exact at2|exact at3|exact at4|exact at5|exact at6|exact at7))|(apply OKx_lss;exact rfl;exact rfl;all_goals (intro _; try (exfalso;omega)))|(apply OKx_idxO;exact rfl;exact rfl;omega)|(apply OKx_idxR;(conv=>lhs;whnf)<;>exact rfl;(with_reducible assumption);exact rfl;omega;intro _ _)|(apply OKx_idxOz;exact rfl;exact rfl;omega;omega)|(apply OKx_idxRz;(conv=>lhs;whnf)<;>exact rfl;(with_reducible assumption);exact rfl;omega;omega;intro _ _)|(apply OKx_inc;exact rfl;exact rfl;omega)|(apply OKx_addN;exact rfl;exact rfl;omega)|(apply OKx_add;exact rfl;exact rfl;omega;omega)|(apply OKx_dec;exact rfl;exact rfl;omega;omega)|(apply OKx_subN;exact rfl;exact rfl;omega;omega)|(apply OKx_sub;exact rfl;exact rfl;omega;omega)|(apply OKx_notT;exact rfl)|(apply OKx_notF;exact rfl)|(apply OKx_stB;exact rfl;(conv=>lhs;whnf)<;>exact rfl;exact rfl;exact rfl;(first | exact at0|exact at1|exact at2|exact at3|exact at4|exact at5|exact at6|exact at7);exact rfl;exact rfl;exact rfl))
    refine bodyQ_r1 (by ((conv=>lhs;whnf)<;>exact rfl)) ?_
    have ho4 := ho3 (by omega)
    have htk : (lays vs1 o3 zs).take (k * 1) = vs1.take k := by
      rw [lays_eq zs vs1 o3 (by omega), List.append_assoc, show o3 = k by omega, Nat.mul_one]
      rw [List.take_append_of_le_length (by rw [List.length_take];omega), List.take_take, Nat.min_self]
    have hlk : (vs1.take k).length = k := by rw [List.length_take];omega
    refine ⟨_, Ent.cut 0 rfl k (by omega), c, vs1.take k, ⟨hin, fun u hu => ?_, fun h => by rw [hlk, hal h];omega, by rw [hlk];omega⟩, by rw [hlk], ?_⟩
    · obtain ⟨j, hj, e⟩ := List.getElem_of_mem hu
      exact hcov j u (by omega) (by rw [List.getElem?_eq_getElem hj, e])
    · show (Res.row 22 1 _ k (List.take (k * 1) _) :: X) = _
      rw [htk, hlk]
  obtain ⟨a, ha, hma⟩ := hget (o2 + k2) (by omega)
  obtain ⟨b, hb2, hmb⟩ := hget (o2 + (k2 - 1)) (by omega)
  have ha1 : vs1[o2 + k2]? = some a := by rw [htl _ (by omega)]; exact ha
  have hb1 : vs1[o2 + (k2 - 1)]? = some b := by rw [htl _ (by omega)]; exact hb2
  have heq2 := fun w1 (hp : Hp w0.heap.size w0 w1 X) => equal_int_sat a b (Fi a) (Fi b) w1 (hX w1 hp a hma) (hX w1 hp b hmb)
  by_cases hab : Fi a = Fi b
  · have hbb : (Fi a == Fi b) = true := by simpa using hab
    rw [hbb] at heq2
    repeat' (first|(apply OK_seq)|(apply thenQ_n)|(apply OK_region)|(refine OKx_idxOp (p := o2 + k2) rfl rfl (by omega) rfl ?_)|(refine OKx_idxOp (p := o2 + (k2 - 1)) rfl rfl (by omega) rfl ?_)|(apply OKx_gl; refine OKx_ldW 0 rfl rfl (by omega) ha1 ?_)|(apply OKx_gl; refine OKx_ldW 0 rfl rfl (by omega) hb1 ?_)|(apply OKx_gc 15;exact rfl; refine OKx_callV (f := 15) rfl rfl rfl (fun w1 hp => heq2 w1 hp.drop1) ?_)|(refine OK_rid 6 ?_; refine OK_quiet (id := 6) (by kernel_rfl) (by kernel_rfl) ?_)|(refine OK_rid 11 ?_; refine OK_quiet (id := 11) (by kernel_rfl) (by kernel_rfl) ?_)|(apply OKx_nilK)|(apply OK_block)|(apply blockQ_n)|(apply blockQ_s)|(apply thenQ_e)|(apply blockQ_e;exact rfl)|(apply thenQ_r)|(apply blockQ_r)|(apply OK_condT;exact rfl)|(apply OK_condF;exact rfl)|(apply OK_skip)|(apply OK_exit)|(apply OK_ret)|(apply OKx_move;(conv=>lhs;whnf)<;>exact rfl)|(apply OKx_assign;(conv=>lhs;whnf)<;>exact rfl)|(apply OKx_ldB;exact rfl;(first | exact at0|exact at1|exact at2|exact at3|exact at4|exact at5|exact at6|exact at7);exact rfl)|(apply OKx_ldR;(conv=>lhs;whnf)<;>exact rfl;(with_reducible assumption))|(apply OKx_len;exact rfl)|(apply OKx_lenR;(conv=>lhs;whnf)<;>exact rfl;(with_reducible assumption))|(apply OKx_lenR2;(conv=>lhs;whnf)<;>exact rfl;(with_reducible assumption))|(apply OKx_lenO;(conv=>lhs;whnf)<;>exact rfl;(first | exact at0|exact at1|exact at2|exact at3|exact at4|exact at5|exact at6|exact at7))|(apply OKx_lss;exact rfl;exact rfl;all_goals (intro _; try (exfalso;omega)))|(apply OKx_idxO;exact rfl;exact rfl;omega)|(apply OKx_idxR;(conv=>lhs;whnf)<;>exact rfl;(with_reducible assumption);exact rfl;omega;intro _ _)|(apply OKx_idxOz;exact rfl;exact rfl;omega;omega)|(apply OKx_idxRz;(conv=>lhs;whnf)<;>exact rfl;(with_reducible assumption);exact rfl;omega;omega;intro _ _)|(apply OKx_inc;exact rfl;exact rfl;omega)|(apply OKx_addN;exact rfl;exact rfl;omega)|(apply OKx_add;exact rfl;exact rfl;omega;omega)|(apply OKx_dec;exact rfl;exact rfl;omega;omega)|(apply OKx_subN;exact rfl;exact rfl;omega;omega)|(apply OKx_sub;exact rfl;exact rfl;omega;omega)|(apply OKx_notT;exact rfl)|(apply OKx_notF;exact rfl)|(apply OKx_stB;exact rfl;(conv=>lhs;whnf)<;>exact rfl;exact rfl;exact rfl;(first | exact at0|exact at1|exact at2|exact at3|exact at4|exact at5|exact at6|exact at7);exact rfl;exact rfl;exact rfl))
    refine ⟨by (repeat' (first | refine agree_upd rfl ?_ | exact agree_over | exact agree_refl _ _ | refine agree_over2 rfl ?_)), m2 - 1, _, by omega, Ent.refl _ _, ?_⟩
    refine ⟨k, k2 + 1, vs1, by omega, by omega, hk1', by omega, hl1, rfl, rfl, fun j hj => htl j (by omega), hin, fun j u hj hu => ?_, hal, rfl⟩
    by_cases hjk : j < o2 + k2
    · exact hcov j u hjk hu
    · obtain rfl : j = o2 + k2 := by omega
      obtain rfl : a = u := Option.some.inj (ha.symm.trans hu)
      obtain ⟨u', h1, h2⟩ := hcov (o2 + (k2 - 1)) b (by omega) hb2
      exact ⟨u', h1, h2.trans hab.symm⟩
  · have hbb : (Fi a == Fi b) = false := by simpa using hab
    rw [hbb] at heq2
    repeat' (first|(apply OK_seq)|(apply thenQ_n)|(apply OK_region)|(refine OKx_idxOp (p := o2 + k2) rfl rfl (by omega) rfl ?_)|(refine OKx_idxOp (p := o2 + (k2 - 1)) rfl rfl (by omega) rfl ?_)|(apply OKx_gl; refine OKx_ldW 0 rfl rfl (by omega) ha1 ?_)|(apply OKx_gl; refine OKx_ldW 0 rfl rfl (by omega) hb1 ?_)|(apply OKx_gc 15;exact rfl; refine OKx_callV (f := 15) rfl rfl rfl (fun w1 hp => heq2 w1 hp.drop1) ?_)|(apply OKx_gs; refine OKx_stW 0 rfl rfl (hone a hma).1 (hone a hma).2 rfl (by omega) rfl rfl ?_)|(refine OK_rid 6 ?_; refine OK_quiet (id := 6) (by kernel_rfl) (by kernel_rfl) ?_)|(refine OK_rid 11 ?_; refine OK_quiet (id := 11) (by kernel_rfl) (by kernel_rfl) ?_)|(apply OKx_nilK)|(apply OK_block)|(apply blockQ_n)|(apply blockQ_s)|(apply thenQ_e)|(apply blockQ_e;exact rfl)|(apply thenQ_r)|(apply blockQ_r)|(apply OK_condT;exact rfl)|(apply OK_condF;exact rfl)|(apply OK_skip)|(apply OK_exit)|(apply OK_ret)|(apply OKx_move;(conv=>lhs;whnf)<;>exact rfl)|(apply OKx_assign;(conv=>lhs;whnf)<;>exact rfl)|(apply OKx_ldB;exact rfl;(first | exact at0|exact at1|exact at2|exact at3|exact at4|exact at5|exact at6|exact at7);exact rfl)|(apply OKx_ldR;(conv=>lhs;whnf)<;>exact rfl;(with_reducible assumption))|(apply OKx_len;exact rfl)|(apply OKx_lenR;(conv=>lhs;whnf)<;>exact rfl;(with_reducible assumption))|(apply OKx_lenR2;(conv=>lhs;whnf)<;>exact rfl;(with_reducible assumption))|(apply OKx_lenO;(conv=>lhs;whnf)<;>exact rfl;(first | exact at0|exact at1|exact at2|exact at3|exact at4|exact at5|exact at6|exact at7))|(apply OKx_lss;exact rfl;exact rfl;all_goals (intro _; try (exfalso;omega)))|(apply OKx_idxO;exact rfl;exact rfl;omega)|(apply OKx_idxR;(conv=>lhs;whnf)<;>exact rfl;(with_reducible assumption);exact rfl;omega;intro _ _)|(apply OKx_idxOz;exact rfl;exact rfl;omega;omega)|(apply OKx_idxRz;(conv=>lhs;whnf)<;>exact rfl;(with_reducible assumption);exact rfl;omega;omega;intro _ _)|(apply OKx_inc;exact rfl;exact rfl;omega)|(apply OKx_addN;exact rfl;exact rfl;omega)|(apply OKx_add;exact rfl;exact rfl;omega;omega)|(apply OKx_dec;exact rfl;exact rfl;omega;omega)|(apply OKx_subN;exact rfl;exact rfl;omega;omega)|(apply OKx_sub;exact rfl;exact rfl;omega;omega)|(apply OKx_notT;exact rfl)|(apply OKx_notF;exact rfl)|(apply OKx_stB;exact rfl;(conv=>lhs;whnf)<;>exact rfl;exact rfl;exact rfl;(first | exact at0|exact at1|exact at2|exact at3|exact at4|exact at5|exact at6|exact at7);exact rfl;exact rfl;exact rfl))
    refine ⟨by (repeat' (first | refine agree_upd rfl ?_ | exact agree_over | exact agree_refl _ _ | refine agree_over2 rfl ?_)), m2 - 1, _, by omega, Ent.refl _ _, ?_⟩
    have htk : (vs1.set k a).take (k + 1) = vs1.take k ++ [a] := by
      rw [List.take_succ_eq_append_getElem (by rw [List.length_set];omega), List.take_set_of_le (Nat.le_refl k), List.getElem_set_self]
    refine ⟨k + 1, k2 + 1, vs1.set k a, by omega, by omega, by omega, by omega, by rw [List.length_set]; exact hl1, rfl, rfl, fun j hj => ?_, fun u hu => ?_, fun j u hj hu => ?_, fun h => absurd (h a hma b hmb) hab, rfl⟩
    · rw [List.getElem?_set_ne (by omega)]
      exact htl j (by omega)
    · rw [htk] at hu
      rcases List.mem_append.1 hu with h | h
      · exact hin u h
      · rw [List.mem_singleton] at h; rw [h]; exact hma
    · rw [htk]
      by_cases hjk : j < o2 + k2
      · obtain ⟨u', h1, h2⟩ := hcov j u hjk hu
        exact ⟨u', List.mem_append_left _ h1, h2⟩
      · obtain rfl : j = o2 + k2 := by omega
        obtain rfl : a = u := Option.some.inj (ha.symm.trans hu)
        exact ⟨a, List.mem_append_right _ (List.mem_singleton.2 rfl), rfl⟩
end Go.Proofs.YtpknpbeiifjmgaaGreat
namespace Go.Proofs.YtpknpbeiifjmgaaGreat
open Go.RowKit Go.Maps
theorem nmT_ne {t : Tre} (hc : treC t = 0) (j k : Nat) (hjk : j < k) (hk : k < (lvs t).length) : (nmT t).getD j ByteArray.empty ≠ (nmT t).getD k ByteArray.empty := by
  obtain ⟨u, hu, hu2, _⟩ := lvs_leaf hc j (by omega)
  obtain ⟨v, hv, hv2, hv4⟩ := lvs_leaf hc k hk
  rw [nmT_at t j u (by omega) hu2, nmT_at t k v hk hv2]
  have hasc := List.pairwise_iff_getElem.1 (lvs_asc2 t) j k (by omega) hk hjk
  rw [getD_lt _ _ _ (by omega)] at hu2 hv2
  refine leaf_names hc u v (by omega) hv ?_
  unfold inn inK anyN
  rw [List.any_eq_false]
  intro i hi
  have := hv4 i (List.mem_range.1 hi)
  simpa using this
def okS (t : Tre) (v : Nat) : Bool := decide (2 ≤ (nrmL t v).length ∧ (nrmL t v).length + 2 ≤ (lvs t).length)
theorem belL_set (t : Tre) (h64 : (lvs t).length ≤ 64) (v : Nat) : setB (belL t v) ∧ ∀ x ∈ belL t v, 0 ≤ x ∧ x < ((lvs t).length : Int) := by
  have h1 : ∀ x ∈ belL t v, 0 ≤ x ∧ x < ((lvs t).length : Int) := fun x hx => by
    obtain ⟨p, hp, _, rfl⟩ := (belL_mem t v x).1 hx
    omega
  exact ⟨⟨belL_asc t v, fun x hx => by have := h1 x hx;omega⟩, h1⟩
theorem nrmL_true {t : Tre} {v : Nat} (h : hasI (belL t v) 0 = true) : nrmL t v = cmpL (belL t v) (lvs t).length := by
  unfold nrmL
  rw [if_pos h]
  rfl
theorem nrmL_false {t : Tre} {v : Nat} (h : hasI (belL t v) 0 = false) : nrmL t v = belL t v := by
  unfold nrmL
  rw [if_neg (by rw [h]; simp)]
theorem nrmL_set (t : Tre) (h64 : (lvs t).length ≤ 64) (v : Nat) : setB (nrmL t v) ∧ ∀ x ∈ nrmL t v, 0 < x ∧ x < ((lvs t).length : Int) := by
  obtain ⟨hb, hb2⟩ := belL_set t h64 v
  cases h : hasI (belL t v) 0 with
  | true =>
    have h1 : ∀ x ∈ nrmL t v, 0 < x ∧ x < ((lvs t).length : Int) := fun x hx => by
      rw [nrmL_true h] at hx
      unfold cmpL at hx
      obtain ⟨p, hp, rfl⟩ := List.mem_map.1 hx
      rw [List.mem_filter, List.mem_range] at hp
      have : p ≠ 0 := by
        rintro rfl
        have h2 := hp.2
        rw [show ((0 : Nat) : Int) = 0 from rfl, h] at h2
        simp at h2
      omega
    refine ⟨⟨?_, fun x hx => by have := h1 x hx;omega⟩, h1⟩
    rw [nrmL_true h]
    unfold cmpL
    rw [List.pairwise_map]
    exact (List.Pairwise.filter _ List.pairwise_lt_range).imp (fun h => by omega)
  | false =>
    rw [nrmL_false h]
    refine ⟨hb, fun x hx => ?_⟩
    have h2 := hb2 x hx
    refine ⟨?_, h2.2⟩
    have : x ≠ 0 := by
      rintro rfl
      have : hasI (belL t v) 0 = true := by unfold hasI; rw [List.contains_iff_mem]; exact hx
      rw [h] at this; cases this
    omega
theorem okS_spC (t : Tre) (v : Nat) : spC (lvs t).length (nrmL t v).length = if okS t v = true then 0 else 8 := by
  unfold spC okS
  by_cases h : 2 ≤ (nrmL t v).length ∧ (nrmL t v).length + 2 ≤ (lvs t).length
  · rw [decide_eq_true h, if_pos rfl, if_neg (by omega)]
  · rw [decide_eq_false h, if_pos (show (nrmL t v).length < 2 ∨ (lvs t).length - 2 < (nrmL t v).length by omega)]
    rfl
def fnS (nm : List ByteArray) : Nat → Lit → Option Value
  | 0 => fun _ => none
  | k + 1 => putF (fnS nm k) (litS (nm.getD k ByteArray.empty)) (.bool true)
theorem fnS_at (nm : List ByteArray) (s : ByteArray) : ∀ k, k ≤ nm.length → fnS nm k (litS s) = if ∃ j, j < k ∧ nm.getD j ByteArray.empty = s then some (.bool true) else none
  | 0, _ => by rw [if_neg (by rintro ⟨j, h, _⟩;omega)]; rfl
  | k + 1, hk => by
    rw [fnS, putF_str, fnS_at nm s k (by omega)]
    by_cases h : nm.getD k ByteArray.empty = s
    · rw [if_pos h, if_pos ⟨k, by omega, h⟩]
    · rw [if_neg h]
      by_cases h2 : ∃ j, j < k ∧ nm.getD j ByteArray.empty = s
      · rw [if_pos h2, if_pos (by obtain ⟨j, h3, h4⟩ := h2; exact ⟨j, by omega, h4⟩)]
      · rw [if_neg h2, if_neg]
        rintro ⟨j, h3, h4⟩
        by_cases hjk : j = k
        · subst hjk; exact h h4
        · exact h2 ⟨j, by omega, h4⟩
theorem zeroB33 (w : World) : (zeroValue 4).run Tryz.prog w = .ok (.bool false) w := Tryz.zeroValue4 w
section
variable {P : Program} {n : Nat} {w0 : World} {Q : Exit → Fm → List Res → Prop} {K : Fm → List Res → Prop} {F : Fm} {L : List Res} {m : Md} {Lw : List Res} {ops : Array Oper} {rest : List Oper}
  {d : Option Nat} {ty : TypeId} {pos : String} {aft : Array Edge}
theorem OKx_lookR {t k e : TypeId} {x y : Operand} {g c : Nat} {Fk : Lit → Option Value} {key : Value} {kl : Lit} {z v : Value} (hx : rv n F x = .map (some g)) (hy : rv n F y = key) (hm : ∃ o, w0.heap[g]? = some o ∧ MapIs P k c Fk o)
    (Ky : Keyed P k) (ht : P.underlying t = some (.map k e)) (hz : ∀ w, (zeroValue e).run P w = .ok z w) (hkey : keyOf P k key = some kl) (hl : WideAt.IsKeyLit kl) (hv : (Fk kl).getD z = v)
    (kk : OKx P n w0 m ops K rest (updo F d v) L) : OKx P n w0 m ops K (⟨d, .lookup t x y false, ty, pos, aft, none⟩ :: rest) F L :=
  OKx_still (fun w hp _ _ _ _ => by
    obtain ⟨o, ho, hmi⟩ := hm
    have hf : Hp 0 w w [.obj g (MapIs P k c Fk)] := ⟨Below.refl _ _, Nat.zero_le _, fun r hr => by
      rw [List.mem_singleton] at hr
      subst hr
      exact ⟨Nat.zero_le _, o, by rw [hp.below.block g (Array.getElem?_eq_some_iff.1 ho).1]; exact ho, hmi⟩, List.pairwise_singleton _ _⟩
    have h := hf.look 0 rfl Ky ht (hz w) hkey hl
    subst hv
    simp [execOp, hx, hy, h, Result.andThen]) kk
end
set_option maxRecDepth 100000 in
set_option maxHeartbeats 4000000 in
theorem Of1_sat (ps pt pv nv : Value) (gm c : Nat) (t : Tre) (p v : Nat) (w : World) (hc : treC t = 0) (hN : Strs w nv t.names) (hps : Pt1 w ps (.map (some gm))) (hpt : Pt w pt 2 (fun j => [pv, nv].getD j undef)) (hm : ∃ o, w.heap[gm]? = some o ∧ MapIs Tryz.prog 9 c (fnS (nmT t) (nmT t).length) o)
    (hp : p < (lvs t).length) (hv : (lvs t).getD p 0 = (v : Int)) : SatV Tryz.prog 30 [.int .i64 (v : Int), ps, pt] w (.bool false) := by
  obtain ⟨_, _, hln, _, _⟩ := treC_len hc
  obtain ⟨v2, hv2, hv3, _⟩ := lvs_leaf hc p hp
  obtain rfl : v2 = v := by omega
  have hnv := hN.sl
  have hsz := hN.2 _ (getD_mem t.names v2 ByteArray.empty (by omega))
  have hlk : fnS (nmT t) (nmT t).length (litS (t.names.getD v2 ByteArray.empty)) = some (.bool true) := by
    rw [fnS_at _ _ _ (Nat.le_refl _), if_pos ⟨p, by rw [nmT_len]; exact hp, nmT_at t p v2 hp hv3⟩]
  refine SatL.of 13 [4] Tryz.func30 (by kernel_rfl) (by kernel_rfl) rfl rfl rfl rfl ?_
  repeat' (first|(apply OK_seq)|(apply thenQ_n)|(apply OK_region)|(refine OKx_lookR (v := .bool true) rfl rfl hm TKeyS Tryz.underlying62 zeroB33 (keyS _ hsz) (litS_key _) (by rw [hlk]; rfl) ?_)|(refine OK_rid 1 ?_; refine OK_quiet (id := 1) (by kernel_rfl) (by kernel_rfl) ?_)|(apply OKx_nilK)|(apply OK_block)|(apply blockQ_n)|(apply blockQ_s)|(apply thenQ_e)|(apply blockQ_e;exact rfl)|(apply thenQ_r)|(apply blockQ_r)|(apply OK_condT;exact rfl)|(apply OK_condF;exact rfl)|(apply OK_skip)|(apply OK_exit)|(apply OK_ret)|(apply OKx_move;(conv=>lhs;whnf)<;>exact rfl)|(apply OKx_assign;(conv=>lhs;whnf)<;>exact rfl)|(apply OKx_ldB;exact rfl;(first | exact at0|exact at1|exact at2|exact at3|exact at4|exact at5|exact at6|exact at7);exact rfl)|(apply OKx_ldR;(conv=>lhs;whnf)<;>exact rfl;(with_reducible assumption))|(apply OKx_idxO;exact rfl;exact rfl;omega)|(apply OKx_idxR;(conv=>lhs;whnf)<;>exact rfl;(with_reducible assumption);exact rfl;omega;intro _ _)|(apply OKx_idxOz;exact rfl;exact rfl;omega;omega)|(apply OKx_idxRz;(conv=>lhs;whnf)<;>exact rfl;(with_reducible assumption);exact rfl;omega;omega;intro _ _)|(apply OKx_fldO;exact rfl;exact rfl)|(apply OKx_fldR;(conv=>lhs;whnf)<;>exact rfl;(with_reducible assumption); decide;intro _ _)|(apply OKx_notT;exact rfl)|(apply OKx_notF;exact rfl))
  refine bodyQ_r1 (by ((conv=>lhs;whnf)<;>exact rfl)) ?_
  exact ⟨_, Ent.nil, rfl, rfl⟩
end Go.Proofs.YtpknpbeiifjmgaaGreat
