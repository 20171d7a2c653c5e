/-
  Part 8 of the proof: Ge07, Gb. No statement of the seat is proved here.
-/
import Derived.Test.YthnlnffmmioapaaGreatDoorMHCl277
namespace Go.Proofs.YthnlnffmmioapaaGreatDoor
open Go.RowKit
def stV (m : Nat) : Value := .agg #[.int .u64 ((m % 18446744073709551616 : Nat) : Int), .int .u64 ((m / 18446744073709551616 : Nat) : Int)]
def EsR (w : World) (v : Value) (l : List Elc) : Prop := ∃ f, Sl w v 259 l.length f ∧ ∀ i x, l[i]? = some x → f (i * 259 + 0) = .bool x.isNone ∧ ∀ g, x = some g → ∀ c, c < 256 → f (i * 259 + (1 + c)) = .bool (g (UInt8.ofNat c))
theorem EsR.below {w w' : World} {v : Value} {l : List Elc} (h : EsR w v l) (hb : Below w.heap.size w w') : EsR w' v l :=
  let ⟨f, h1, h2⟩ := h; ⟨f, h1.below hb, h2⟩
set_option maxRecDepth 100000 in
set_option maxHeartbeats 4000000 in
theorem has_sat (m i : Nat) (w : World) (hm : m < 2 ^ 128) (hi : i < 128) : SatV Tryz.prog 211 [stV m, .int .i64 (i : Int)] w (.bool (m.testBit i)) := by
  have h1 : m / 18446744073709551616 < 18446744073709551616 := by
    have e : (2 : Nat) ^ 128 = 18446744073709551616 * 18446744073709551616 := rfl
    rw [e] at hm
    exact Nat.div_lt_of_lt_mul hm
  unfold stV
  by_cases hk : i < 64
  · have e0 : i / 64 = 0 := by omega
    have e1 : i % 64 = i := by omega
    rw [lo_bit m i hk]
    by_cases hb : m % 18446744073709551616 / 2 ^ i % 2 = 1
    · rw [decide_eq_true hb]
      refine SatL.of 14 [4] Tryz.func211 (by kernel_rfl) (by kernel_rfl) rfl rfl rfl rfl ?_
      repeat' (first|(apply OK_seq)|(apply thenQ_n)|(apply OK_region)|(apply OKx_gn; refine OKx_quoN (a := i) (b := 64) rfl rfl (by decide) (by omega) ?_; rw [e0])|(apply OKx_gn; refine OKx_remN (a := i) (b := 64) rfl rfl (by decide) (by omega) ?_; rw [e1])|(apply OKx_gi; refine OKx_idxA (i := 0) Tryz.underlying200 rfl rfl (by decide) ?_)|(refine OKx_shrN (i := i) rfl rfl hk ?_)|(refine OKx_and1 rfl rfl (Nat.lt_of_le_of_lt (Nat.div_le_self _ _) (Nat.mod_lt _ (by decide))) ?_; rw [hb])|(apply OKx_nilK)|(apply OK_ret)|(apply OKx_move;(conv=>lhs;whnf)<;>exact rfl)|(apply OKx_assign;(conv=>lhs;whnf)<;>exact rfl)|(apply OKx_ldB;exact rfl; (apply atP;constructor);exact rfl)|(apply OKx_eql;exact rfl;exact rfl;all_goals (intro _; try (exfalso;omega)))|(apply OKx_boxA;exact rfl;intro _))
      refine bodyQ_r1 (by ((conv=>lhs;whnf)<;>exact rfl)) ?_
      exact ⟨_, Ent.nil, rfl, rfl⟩
    · rw [decide_eq_false hb]
      have hb0 : m % 18446744073709551616 / 2 ^ i % 2 = 0 := by omega
      refine SatL.of 14 [4] Tryz.func211 (by kernel_rfl) (by kernel_rfl) rfl rfl rfl rfl ?_
      repeat' (first|(apply OK_seq)|(apply thenQ_n)|(apply OK_region)|(apply OKx_gn; refine OKx_quoN (a := i) (b := 64) rfl rfl (by decide) (by omega) ?_; rw [e0])|(apply OKx_gn; refine OKx_remN (a := i) (b := 64) rfl rfl (by decide) (by omega) ?_; rw [e1])|(apply OKx_gi; refine OKx_idxA (i := 0) Tryz.underlying200 rfl rfl (by decide) ?_)|(refine OKx_shrN (i := i) rfl rfl hk ?_)|(refine OKx_and1 rfl rfl (Nat.lt_of_le_of_lt (Nat.div_le_self _ _) (Nat.mod_lt _ (by decide))) ?_; rw [hb0])|(apply OKx_nilK)|(apply OK_ret)|(apply OKx_move;(conv=>lhs;whnf)<;>exact rfl)|(apply OKx_assign;(conv=>lhs;whnf)<;>exact rfl)|(apply OKx_ldB;exact rfl; (apply atP;constructor);exact rfl)|(apply OKx_eql;exact rfl;exact rfl;all_goals (intro _; try (exfalso;omega)))|(apply OKx_boxA;exact rfl;intro _))
      refine bodyQ_r1 (by ((conv=>lhs;whnf)<;>exact rfl)) ?_
      exact ⟨_, Ent.nil, rfl, rfl⟩
  · have e0 : i / 64 = 1 := by omega
    have e1 : i % 64 = i - 64 := by omega
    rw [hi_bit m i (by omega)]
    by_cases hb : m / 18446744073709551616 / 2 ^ (i - 64) % 2 = 1
    · rw [decide_eq_true hb]
      refine SatL.of 14 [4] Tryz.func211 (by kernel_rfl) (by kernel_rfl) rfl rfl rfl rfl ?_
      repeat' (first|(apply OK_seq)|(apply thenQ_n)|(apply OK_region)|(apply OKx_gn; refine OKx_quoN (a := i) (b := 64) rfl rfl (by decide) (by omega) ?_; rw [e0])|(apply OKx_gn; refine OKx_remN (a := i) (b := 64) rfl rfl (by decide) (by omega) ?_; rw [e1])|(apply OKx_gi; refine OKx_idxA (i := 1) Tryz.underlying200 rfl rfl (by decide) ?_)|(refine OKx_shrN (i := i - 64) rfl rfl (by omega) ?_)|(refine OKx_and1 rfl rfl (Nat.lt_of_le_of_lt (Nat.div_le_self _ _) h1) ?_; rw [hb])|(apply OKx_nilK)|(apply OK_ret)|(apply OKx_move;(conv=>lhs;whnf)<;>exact rfl)|(apply OKx_assign;(conv=>lhs;whnf)<;>exact rfl)|(apply OKx_ldB;exact rfl; (apply atP;constructor);exact rfl)|(apply OKx_eql;exact rfl;exact rfl;all_goals (intro _; try (exfalso;omega)))|(apply OKx_boxA;exact rfl;intro _))
      refine bodyQ_r1 (by ((conv=>lhs;whnf)<;>exact rfl)) ?_
      exact ⟨_, Ent.nil, rfl, rfl⟩
    · rw [decide_eq_false hb]
      have hb0 : m / 18446744073709551616 / 2 ^ (i - 64) % 2 = 0 := by omega
      refine SatL.of 14 [4] Tryz.func211 (by kernel_rfl) (by kernel_rfl) rfl rfl rfl rfl ?_
      repeat' (first|(apply OK_seq)|(apply thenQ_n)|(apply OK_region)|(apply OKx_gn; refine OKx_quoN (a := i) (b := 64) rfl rfl (by decide) (by omega) ?_; rw [e0])|(apply OKx_gn; refine OKx_remN (a := i) (b := 64) rfl rfl (by decide) (by omega) ?_; rw [e1])|(apply OKx_gi; refine OKx_idxA (i := 1) Tryz.underlying200 rfl rfl (by decide) ?_)|(refine OKx_shrN (i := i - 64) rfl rfl (by omega) ?_)|(refine OKx_and1 rfl rfl (Nat.lt_of_le_of_lt (Nat.div_le_self _ _) h1) ?_; rw [hb0])|(apply OKx_nilK)|(apply OK_ret)|(apply OKx_move;(conv=>lhs;whnf)<;>exact rfl)|(apply OKx_assign;(conv=>lhs;whnf)<;>exact rfl)|(apply OKx_ldB;exact rfl; (apply atP;constructor);exact rfl)|(apply OKx_eql;exact rfl;exact rfl;all_goals (intro _; try (exfalso;omega)))|(apply OKx_boxA;exact rfl;intro _))
      refine bodyQ_r1 (by ((conv=>lhs;whnf)<;>exact rfl)) ?_
      exact ⟨_, Ent.nil, rfl, rfl⟩
theorem EsR.len {w : World} {v : Value} {l : List Elc} (h : EsR w v l) : l.length ≤ 140737488355328 := let ⟨_, h1, _⟩ := h; h1.len
set_option maxRecDepth 100000 in
set_option maxHeartbeats 4000000 in
theorem with_sat (m i : Nat) (v : Value) (l : List Elc) (w : World) (h : EsR w v l) (hm : m < 2 ^ 128) (hl : l.length ≤ 64) (hi : i ≤ l.length) :
    SatV Tryz.prog 209 [stV m, v, .int .i64 (i : Int)] w (stV (m ||| clsM (l.drop i) i)) := by
  obtain ⟨f, hs, hf⟩ := h
  unfold stV
  refine SatL.ofC 31 6 200 2 Tryz.func209 (by kernel_rfl) (by kernel_rfl) rfl rfl rfl ?_
  repeat' (first|(apply OK_seq)|(apply thenQ_n)|(apply OK_region)|(apply OKx_nilK)|(apply OK_block)|(apply OKx_boxA;exact rfl;intro _)|(apply OKx_allocA;intro _))
  rename_i g3 g6
  refine OK_loop1 2 [2, 7, 8, 9, 10, 11, 12, 13, 14, 15, 16, 17, 18, 19, 20, 21, 22, 23, 24, 25, 26, 27, 28, 29, 30] (fun mm u L => ∃ k mk : Nat, k + mm = l.length ∧ i ≤ k ∧ u = .int .i64 (k : Int) ∧ mk < 2 ^ 128 ∧ mk ||| clsM (l.drop k) k = m ||| clsM (l.drop i) i ∧
    L = [.box 200 g6 [.int .u64 0, .int .u64 0], .box 200 g3 [.int .u64 ((mk % 18446744073709551616 : Nat) : Int), .int .u64 ((mk / 18446744073709551616 : Nat) : Int)]]) (l.length - i) _ (Ent.refl _ _) ⟨i, m, by omega, Nat.le_refl _, rfl, hm, rfl, rfl⟩ ?_
  rintro mm u L G ⟨k, mk, hkm, hik, rfl, hmk, hinv, rfl⟩
  have hmk' : mk ||| 2 ^ k < 2 ^ 128 := Nat.or_lt_two_pow hmk (Nat.pow_lt_pow_right (by decide) (by omega))
  have hh1 : mk / 18446744073709551616 < 18446744073709551616 := by
    have e : (2 : Nat) ^ 128 = 18446744073709551616 * 18446744073709551616 := rfl
    rw [e] at hmk
    exact Nat.div_lt_of_lt_mul hmk
  have hlo : mk % 18446744073709551616 < 18446744073709551616 := Nat.mod_lt _ (by decide)
  have hend : (k = l.length ∨ ∃ x, l[k]? = some (some x)) → mk ||| 2 ^ k = m ||| clsM (l.drop i) i := fun hx => by
    have e : clsM (l.drop k) k = 2 ^ k := by
      rcases hx with rfl | ⟨x, hx⟩
      · rw [List.drop_length]; rfl
      · have hlt := (List.getElem?_eq_some_iff.1 hx).1
        rw [List.drop_eq_getElem_cons hlt, (List.getElem?_eq_some_iff.1 hx).2]; rfl
    rw [← e]; exact hinv
  have hgo : l[k]? = some none → (mk ||| 2 ^ k) ||| clsM (l.drop (k + 1)) (k + 1) = m ||| clsM (l.drop i) i := fun hx => by
    have hlt := (List.getElem?_eq_some_iff.1 hx).1
    rw [← hinv, List.drop_eq_getElem_cons hlt, (List.getElem?_eq_some_iff.1 hx).2, clsM, Nat.or_assoc]
  by_cases hk64 : k < 64
  · have e0 : k / 64 = 0 := by omega
    have e1 : k % 64 = k := by omega
    obtain ⟨b1, b2⟩ := lo_or mk k (by omega)
    have h2k : 2 ^ (k) < 18446744073709551616 := Nat.pow_lt_pow_right (m := k) (n := 64) (by decide) (by omega)
    by_cases hkl : k = l.length
    · have hfin := hend (.inl hkl)
      repeat' (first|(apply OK_seq)|(apply thenQ_n)|(apply OK_region)|(apply OKx_gn; refine OKx_quoN (a := k) (b := 64) rfl rfl (by decide) (by omega) ?_; rw [e0])|(apply OKx_gn; refine OKx_remN (a := k) (b := 64) rfl rfl (by decide) (by omega) ?_; rw [e1])|(apply OKx_gi; refine OKx_idxA (i := 0) Tryz.underlying200 rfl rfl (by decide) ?_)|(refine OKx_shlN (i := k) rfl rfl (by omega) ?_)|(refine OKx_orN rfl rfl (by omega) h2k ?_; rw [← b1])|(refine OK_rid 1 ?_; refine OK_mix2 [] [0, 1, 2, 3, 4, 5, 6, 7, 8] [] [] [9] [.box 200 g3 [.int .u64 ((mk % 18446744073709551616 : Nat) : Int), .int .u64 ((mk / 18446744073709551616 : Nat) : Int)]] (id := 1) (by kernel_rfl) (by kernel_rfl) rfl (by first | exact Ent.pick [1] rfl) (by ((try simp only [pickO]) <;> exact rfl)) (by ((try simp only [pickO, nthO, List.cons_append, List.nil_append]) <;> exact rfl)) (by ((try simp only [pickO]) <;> exact rfl)) (by ((try simp only [pickO]) <;> exact rfl)) (by ((try simp only [pickO, nthO, List.cons_append, List.nil_append]) <;> exact rfl)) ?_)|(apply OKx_nilK)|(apply OK_block)|(apply thenQ_r)|(apply blockQ_r)|(apply OK_condT;exact rfl)|(apply OK_ret)|(apply OKx_move;(conv=>lhs;whnf)<;>exact rfl)|(apply OKx_ldB;exact rfl; (apply atP;constructor);exact rfl)|(apply OKx_lenR;(conv=>lhs;whnf)<;>exact rfl;(with_reducible assumption))|(apply OKx_eql;exact rfl;exact rfl;all_goals (intro _; try (exfalso;omega)))|(apply OKx_pickT;exact rfl;(conv=>lhs;whnf)<;>exact rfl)|(apply OKx_guardF;exact rfl;exact rfl)|(apply OKx_ldBA;exact rfl; (apply atP;constructor);exact rfl)|(apply OKx_stB;exact rfl;(conv=>lhs;whnf)<;>exact rfl;exact rfl;exact rfl; (apply atP;constructor);exact rfl;exact rfl;exact rfl)|(apply OKx_stBA; kernel_rfl;exact rfl;exact rfl;exact rfl; (apply atP;constructor);exact rfl;exact rfl;exact rfl))
      (apply bodyC_r;exact rfl; (apply atP;constructor);exact rfl)
      · exact ⟨_, Ent.nil, by rw [← hfin, ← b2] <;> rfl, rfl⟩
      · exact rfl
    have hlt : k < l.length := by omega
    cases hx : l[k] with
    | none =>
      have hx' : l[k]? = some none := by rw [List.getElem?_eq_getElem hlt, hx]
      have f0 := (hf k none hx').1
      repeat' (first|(apply OK_seq)|(apply thenQ_n)|(apply OK_region)|(apply OKx_gn; refine OKx_quoN (a := k) (b := 64) rfl rfl (by decide) (by omega) ?_; rw [e0])|(apply OKx_gn; refine OKx_remN (a := k) (b := 64) rfl rfl (by decide) (by omega) ?_; rw [e1])|(apply OKx_gi; refine OKx_idxA (i := 0) Tryz.underlying200 rfl rfl (by decide) ?_)|(refine OKx_shlN (i := k) rfl rfl (by omega) ?_)|(refine OKx_orN rfl rfl (by omega) h2k ?_; rw [← b1])|(apply OKx_gi; refine OKx_idxRs rfl hs rfl (by omega) ?_; intro p hp)|(refine OKx_fldR rfl hp (by decide) ?_; intro q hq; rw [f0] at hq)|(apply OKx_gl; refine OKx_ldR rfl hq ?_)|(refine OK_rid 1 ?_; refine OK_mix2 [] [0, 1, 2, 3, 4, 5, 6, 7, 8] [] [] [9] [.box 200 g3 [.int .u64 ((mk % 18446744073709551616 : Nat) : Int), .int .u64 ((mk / 18446744073709551616 : Nat) : Int)]] (id := 1) (by kernel_rfl) (by kernel_rfl) rfl (by first | exact Ent.pick [1] rfl) (by ((try simp only [pickO]) <;> exact rfl)) (by ((try simp only [pickO, nthO, List.cons_append, List.nil_append]) <;> exact rfl)) (by ((try simp only [pickO]) <;> exact rfl)) (by ((try simp only [pickO]) <;> exact rfl)) (by ((try simp only [pickO, nthO, List.cons_append, List.nil_append]) <;> exact rfl)) ?_)|(apply OKx_nilK)|(apply OK_block)|(apply blockQ_n)|(apply OK_condF;exact rfl)|(apply OK_skip)|(apply OKx_move;(conv=>lhs;whnf)<;>exact rfl)|(apply OKx_assign;(conv=>lhs;whnf)<;>exact rfl)|(apply OKx_ldB;exact rfl; (apply atP;constructor);exact rfl)|(apply OKx_lenR;(conv=>lhs;whnf)<;>exact rfl;(with_reducible assumption))|(apply OKx_eql;exact rfl;exact rfl;all_goals (intro _; try (exfalso;omega)))|(apply OKx_inc;exact rfl;exact rfl;omega)|(apply OKx_pickF;exact rfl;(conv=>lhs;whnf)<;>exact rfl)|(apply OKx_guardT;exact rfl;exact rfl)|(apply OKx_notT;exact rfl)|(apply OKx_stB;exact rfl;(conv=>lhs;whnf)<;>exact rfl;exact rfl;exact rfl; (apply atP;constructor);exact rfl;exact rfl;exact rfl))
      refine ⟨by (repeat' (first | refine agree_upd rfl ?_ | exact agree_over | exact agree_refl _ _ | refine agree_over2 rfl ?_)), mm - 1, _, by omega, Ent.refl _ _, ?_⟩
      exact ⟨k + 1, mk ||| 2 ^ k, by omega, by omega, rfl, hmk', hgo hx', by rw [b2] <;> rfl⟩
    | some x =>
      have hx' : l[k]? = some (some x) := by rw [List.getElem?_eq_getElem hlt, hx]
      have f0 := (hf k _ hx').1
      have hfin := hend (.inr ⟨x, hx'⟩)
      repeat' (first|(apply OK_seq)|(apply thenQ_n)|(apply OK_region)|(apply OKx_gn; refine OKx_quoN (a := k) (b := 64) rfl rfl (by decide) (by omega) ?_; rw [e0])|(apply OKx_gn; refine OKx_remN (a := k) (b := 64) rfl rfl (by decide) (by omega) ?_; rw [e1])|(apply OKx_gi; refine OKx_idxA (i := 0) Tryz.underlying200 rfl rfl (by decide) ?_)|(refine OKx_shlN (i := k) rfl rfl (by omega) ?_)|(refine OKx_orN rfl rfl (by omega) h2k ?_; rw [← b1])|(apply OKx_gi; refine OKx_idxRs rfl hs rfl (by omega) ?_; intro p hp)|(refine OKx_fldR rfl hp (by decide) ?_; intro q hq; rw [f0] at hq)|(apply OKx_gl; refine OKx_ldR rfl hq ?_)|(refine OK_rid 1 ?_; refine OK_mix2 [] [0, 1, 2, 3, 4, 5, 6, 7, 8] [] [] [9] [.box 200 g3 [.int .u64 ((mk % 18446744073709551616 : Nat) : Int), .int .u64 ((mk / 18446744073709551616 : Nat) : Int)]] (id := 1) (by kernel_rfl) (by kernel_rfl) rfl (by first | exact Ent.pick [1] rfl) (by ((try simp only [pickO]) <;> exact rfl)) (by ((try simp only [pickO, nthO, List.cons_append, List.nil_append]) <;> exact rfl)) (by ((try simp only [pickO]) <;> exact rfl)) (by ((try simp only [pickO]) <;> exact rfl)) (by ((try simp only [pickO, nthO, List.cons_append, List.nil_append]) <;> exact rfl)) ?_)|(apply OKx_nilK)|(apply OK_block)|(apply thenQ_r)|(apply blockQ_r)|(apply OK_condT;exact rfl)|(apply OK_ret)|(apply OKx_move;(conv=>lhs;whnf)<;>exact rfl)|(apply OKx_ldB;exact rfl; (apply atP;constructor);exact rfl)|(apply OKx_lenR;(conv=>lhs;whnf)<;>exact rfl;(with_reducible assumption))|(apply OKx_eql;exact rfl;exact rfl;all_goals (intro _; try (exfalso;omega)))|(apply OKx_pickF;exact rfl;(conv=>lhs;whnf)<;>exact rfl)|(apply OKx_guardT;exact rfl;exact rfl)|(apply OKx_notF;exact rfl)|(apply OKx_ldBA;exact rfl; (apply atP;constructor);exact rfl)|(apply OKx_stB;exact rfl;(conv=>lhs;whnf)<;>exact rfl;exact rfl;exact rfl; (apply atP;constructor);exact rfl;exact rfl;exact rfl)|(apply OKx_stBA; kernel_rfl;exact rfl;exact rfl;exact rfl; (apply atP;constructor);exact rfl;exact rfl;exact rfl))
      (apply bodyC_r;exact rfl; (apply atP;constructor);exact rfl)
      · exact ⟨_, Ent.nil, by rw [← hfin, ← b2] <;> rfl, rfl⟩
      · exact rfl
  · have e0 : k / 64 = 1 := by omega
    have e1 : k % 64 = k - 64 := by omega
    obtain ⟨b1, b2⟩ := hi_or mk k (by omega)
    have h2k : 2 ^ (k - 64) < 18446744073709551616 := Nat.pow_lt_pow_right (m := k - 64) (n := 64) (by decide) (by omega)
    by_cases hkl : k = l.length
    · have hfin := hend (.inl hkl)
      repeat' (first|(apply OK_seq)|(apply thenQ_n)|(apply OK_region)|(apply OKx_gn; refine OKx_quoN (a := k) (b := 64) rfl rfl (by decide) (by omega) ?_; rw [e0])|(apply OKx_gn; refine OKx_remN (a := k) (b := 64) rfl rfl (by decide) (by omega) ?_; rw [e1])|(apply OKx_gi; refine OKx_idxA (i := 1) Tryz.underlying200 rfl rfl (by decide) ?_)|(refine OKx_shlN (i := k - 64) rfl rfl (by omega) ?_)|(refine OKx_orN rfl rfl (by omega) h2k ?_; rw [← b2])|(refine OK_rid 1 ?_; refine OK_mix2 [] [0, 1, 2, 3, 4, 5, 6, 7, 8] [] [] [9] [.box 200 g3 [.int .u64 ((mk % 18446744073709551616 : Nat) : Int), .int .u64 ((mk / 18446744073709551616 : Nat) : Int)]] (id := 1) (by kernel_rfl) (by kernel_rfl) rfl (by first | exact Ent.pick [1] rfl) (by ((try simp only [pickO]) <;> exact rfl)) (by ((try simp only [pickO, nthO, List.cons_append, List.nil_append]) <;> exact rfl)) (by ((try simp only [pickO]) <;> exact rfl)) (by ((try simp only [pickO]) <;> exact rfl)) (by ((try simp only [pickO, nthO, List.cons_append, List.nil_append]) <;> exact rfl)) ?_)|(apply OKx_nilK)|(apply OK_block)|(apply thenQ_r)|(apply blockQ_r)|(apply OK_condT;exact rfl)|(apply OK_ret)|(apply OKx_move;(conv=>lhs;whnf)<;>exact rfl)|(apply OKx_ldB;exact rfl; (apply atP;constructor);exact rfl)|(apply OKx_lenR;(conv=>lhs;whnf)<;>exact rfl;(with_reducible assumption))|(apply OKx_eql;exact rfl;exact rfl;all_goals (intro _; try (exfalso;omega)))|(apply OKx_pickT;exact rfl;(conv=>lhs;whnf)<;>exact rfl)|(apply OKx_guardF;exact rfl;exact rfl)|(apply OKx_ldBA;exact rfl; (apply atP;constructor);exact rfl)|(apply OKx_stB;exact rfl;(conv=>lhs;whnf)<;>exact rfl;exact rfl;exact rfl; (apply atP;constructor);exact rfl;exact rfl;exact rfl)|(apply OKx_stBA; kernel_rfl;exact rfl;exact rfl;exact rfl; (apply atP;constructor);exact rfl;exact rfl;exact rfl))
      (apply bodyC_r;exact rfl; (apply atP;constructor);exact rfl)
      · exact ⟨_, Ent.nil, by rw [← hfin, ← b1] <;> rfl, rfl⟩
      · exact rfl
    exfalso;omega
theorem nxtK_bd (l : List Elc) (m : Nat) (c : UInt8) (k : Nat) (hl : l.length ≤ 64) (hk : k ≤ l.length) : nxtK l m c k < 2 ^ 128 :=
  Nat.lt_of_lt_of_le (nxtK_lt l m c k hk) (Nat.pow_le_pow_right (by decide) (by omega))
set_option maxRecDepth 100000 in
set_option maxHeartbeats 4000000 in
theorem next_sat (m : Nat) (c : UInt8) (v : Value) (l : List Elc) (w : World) (h : EsR w v l) (hm : m < 2 ^ 128) (hl : l.length ≤ 64) :
    SatV Tryz.prog 210 [stV m, v, .int .u8 (c.toNat : Int)] w (stV (nxtM l m c)) := by
  have hes := h
  obtain ⟨f, hs, hf⟩ := h
  have hch := fun (m' i : Nat) w1 => has_sat m' i w1
  have hcw := fun (m' i : Nat) w1 (hb : Below w.heap.size w w1) => with_sat m' i v l w1 (hes.below hb)
  unfold stV
  refine SatL.ofC 44 6 200 2 Tryz.func210 (by kernel_rfl) (by kernel_rfl) rfl rfl rfl ?_
  repeat' (first|(apply OK_seq)|(apply thenQ_n)|(apply OK_region)|(apply OKx_nilK)|(apply OK_block)|(apply OKx_move;(conv=>lhs;whnf)<;>exact rfl)|(apply OKx_lenR;(conv=>lhs;whnf)<;>exact rfl;(with_reducible assumption))|(apply OKx_boxA;exact rfl;intro _)|(apply OKx_allocA;intro _))
  rename_i g3 g6 g7
  refine OK_loop1 11 [8, 11, 12, 13, 14, 15, 16, 17, 18, 19, 20, 21, 22, 23, 24, 25, 26, 27, 28, 29, 30, 31, 32, 33, 34, 35, 36, 37, 38, 39, 40, 41, 42] (fun mm u L => ∃ k : Nat, k + mm = l.length ∧ u = .int .i64 (k : Int) ∧
    L = [.box 200 g7 [.int .u64 ((nxtK l m c k % 18446744073709551616 : Nat) : Int), .int .u64 ((nxtK l m c k / 18446744073709551616 : Nat) : Int)], .box 200 g6 [.int .u64 0, .int .u64 0], .box 200 g3 [.int .u64 ((m % 18446744073709551616 : Nat) : Int), .int .u64 ((m / 18446744073709551616 : Nat) : Int)]]) l.length _ (Ent.refl _ _) ⟨0, by omega, rfl, by have e : nxtK l m c 0 = 0 := rfl; rw [e] <;> rfl⟩ ?_
  rintro mm u L G ⟨k, hkm, rfl, rfl⟩
  by_cases hk : k < l.length
  · have hb := nxtK_bd l m c k hl (by omega)
    have hst := nxtK_succ l m c k
    have h1 : SatV Tryz.prog 211 [stV m, .int .i64 (k : Int)] w (.bool (m.testBit k)) := has_sat m k w hm (by omega)
    have hx : l[k]? = some l[k] := List.getElem?_eq_getElem hk
    unfold nxtE at hst
    cases hbit : m.testBit k with
    | false =>
      rw [hbit, if_neg (by decide)] at hst
      repeat' (first|(apply OK_seq)|(apply thenQ_n)|(apply OK_region)|(apply OKx_gc 211;exact rfl; refine OKx_callV (f := 211) (v := .bool false) rfl rfl rfl (fun w1 hp => by have := hch m k w1 hm (by omega); rwa [hbit] at this) ?_)|(apply OKx_nilK)|(apply OK_block)|(apply blockQ_n)|(apply OK_condT;exact rfl)|(apply OK_skip)|(apply OKx_move;(conv=>lhs;whnf)<;>exact rfl)|(apply OKx_assign;(conv=>lhs;whnf)<;>exact rfl)|(apply OKx_lss;exact rfl;exact rfl;all_goals (intro _; try (exfalso;omega)))|(apply OKx_inc;exact rfl;exact rfl;omega)|(apply OKx_notF;exact rfl)|(apply OKx_ldBA;exact rfl; (apply atP;constructor);exact rfl))
      refine ⟨by (repeat' (first | refine agree_upd rfl ?_ | exact agree_over | exact agree_refl _ _ | refine agree_over2 rfl ?_)), mm - 1, _, by omega, Ent.refl _ _, ?_⟩
      exact ⟨k + 1, by omega, rfl, by rw [hst] <;> rfl⟩
    | true =>
      rw [hbit, if_pos rfl, hx] at hst
      cases hxx : l[k] with
      | none =>
        rw [hxx] at hst hx
        dsimp only at hst
        have f0 := (hf k none hx).1
        repeat' (first|(apply OK_seq)|(apply thenQ_n)|(apply OK_region)|(apply OKx_gc 211;exact rfl; refine OKx_callV (f := 211) (v := .bool true) rfl rfl rfl (fun w1 hp => by have := hch m k w1 hm (by omega); rwa [hbit] at this) ?_)|(apply OKx_gi; refine OKx_idxRs rfl hs rfl (by omega) ?_; intro p hp)|(refine OKx_fldR rfl hp (by decide) ?_; intro q hq; rw [f0] at hq)|(apply OKx_gl; refine OKx_ldR rfl hq ?_)|(apply OKx_gc 209;exact rfl; refine OKx_callV (f := 209) (v := stV (nxtK l m c (k + 1))) rfl rfl rfl (fun w1 hp => by rw [hst]; exact hcw (nxtK l m c k) k w1 hp.below hb hl (by omega)) ?_)|(apply OKx_nilK)|(apply OK_block)|(apply blockQ_n)|(apply OK_condT;exact rfl)|(apply OK_condF;exact rfl)|(apply OK_skip)|(apply OKx_move;(conv=>lhs;whnf)<;>exact rfl)|(apply OKx_assign;(conv=>lhs;whnf)<;>exact rfl)|(apply OKx_lss;exact rfl;exact rfl;all_goals (intro _; try (exfalso;omega)))|(apply OKx_inc;exact rfl;exact rfl;omega)|(apply OKx_notT;exact rfl)|(apply OKx_ldBA;exact rfl; (apply atP;constructor);exact rfl)|(apply OKx_stBA; kernel_rfl;exact rfl;exact rfl;exact rfl; (apply atP;constructor);exact rfl;exact rfl;exact rfl))
        refine ⟨by (repeat' (first | refine agree_upd rfl ?_ | exact agree_over | exact agree_refl _ _ | refine agree_over2 rfl ?_)), mm - 1, _, by omega, Ent.refl _ _, ?_⟩
        exact ⟨k + 1, by omega, rfl, rfl⟩
      | some g =>
        rw [hxx] at hst hx
        dsimp only at hst
        have f0 := (hf k (some g) hx).1
        have f1 := (hf k (some g) hx).2 g rfl c.toNat c.toNat_lt
        rw [show UInt8.ofNat c.toNat = c by rw [← UInt8.toNat_inj, UInt8.toNat_ofNat']; exact Nat.mod_eq_of_lt c.toNat_lt] at f1
        have hc256 := c.toNat_lt
        cases hg : g c with
        | true =>
          rw [hg] at f1
          rw [hg, if_pos rfl] at hst
          repeat' (first|(apply OK_seq)|(apply thenQ_n)|(apply OK_region)|(apply OKx_gc 211;exact rfl; refine OKx_callV (f := 211) (v := .bool true) rfl rfl rfl (fun w1 hp => by have := hch m k w1 hm (by omega); rwa [hbit] at this) ?_)|(apply OKx_gi; refine OKx_idxRs rfl hs rfl (by omega) ?_; intro p hp)|(refine OKx_fldR (off := 0) rfl hp (by decide) ?_; intro q hq; rw [f0] at hq)|(refine OKx_fldRA (off := 1) (len := 256) rfl hp (by decide) ?_; intro p2 hp2)|(refine OKx_idxAR (i := c.toNat) Tryz.underlying145 rfl hp2 rfl hc256 ?_; intro q2 hq2; rw [f1] at hq2)|(apply OKx_gl; refine OKx_ldR rfl hq ?_)|(apply OKx_gl; refine OKx_ldR rfl hq2 ?_)|(apply OKx_gc 209;exact rfl; refine OKx_callV (f := 209) (v := stV (nxtK l m c (k + 1))) rfl rfl rfl (fun w1 hp => by rw [hst]; exact hcw (nxtK l m c k) (k + 1) w1 hp.below hb hl (by omega)) ?_)|(apply OKx_nilK)|(apply OK_block)|(apply blockQ_n)|(apply OK_condT;exact rfl)|(apply OK_condF;exact rfl)|(apply OK_skip)|(apply OKx_move;(conv=>lhs;whnf)<;>exact rfl)|(apply OKx_assign;(conv=>lhs;whnf)<;>exact rfl)|(apply OKx_lss;exact rfl;exact rfl;all_goals (intro _; try (exfalso;omega)))|(apply OKx_inc;exact rfl;exact rfl;omega)|(apply OKx_notT;exact rfl)|(apply OKx_ldBA;exact rfl; (apply atP;constructor);exact rfl)|(apply OKx_stBA; kernel_rfl;exact rfl;exact rfl;exact rfl; (apply atP;constructor);exact rfl;exact rfl;exact rfl))
          refine ⟨by (repeat' (first | refine agree_upd rfl ?_ | exact agree_over | exact agree_refl _ _ | refine agree_over2 rfl ?_)), mm - 1, _, by omega, Ent.refl _ _, ?_⟩
          exact ⟨k + 1, by omega, rfl, rfl⟩
        | false =>
          rw [hg] at f1
          rw [hg, if_neg (by decide)] at hst
          repeat' (first|(apply OK_seq)|(apply thenQ_n)|(apply OK_region)|(apply OKx_gc 211;exact rfl; refine OKx_callV (f := 211) (v := .bool true) rfl rfl rfl (fun w1 hp => by have := hch m k w1 hm (by omega); rwa [hbit] at this) ?_)|(apply OKx_gi; refine OKx_idxRs rfl hs rfl (by omega) ?_; intro p hp)|(refine OKx_fldR (off := 0) rfl hp (by decide) ?_; intro q hq; rw [f0] at hq)|(refine OKx_fldRA (off := 1) (len := 256) rfl hp (by decide) ?_; intro p2 hp2)|(refine OKx_idxAR (i := c.toNat) Tryz.underlying145 rfl hp2 rfl hc256 ?_; intro q2 hq2; rw [f1] at hq2)|(apply OKx_gl; refine OKx_ldR rfl hq ?_)|(apply OKx_gl; refine OKx_ldR rfl hq2 ?_)|(apply OKx_nilK)|(apply OK_block)|(apply blockQ_n)|(apply OK_condT;exact rfl)|(apply OK_condF;exact rfl)|(apply OK_skip)|(apply OKx_move;(conv=>lhs;whnf)<;>exact rfl)|(apply OKx_assign;(conv=>lhs;whnf)<;>exact rfl)|(apply OKx_lss;exact rfl;exact rfl;all_goals (intro _; try (exfalso;omega)))|(apply OKx_inc;exact rfl;exact rfl;omega)|(apply OKx_notT;exact rfl)|(apply OKx_ldBA;exact rfl; (apply atP;constructor);exact rfl))
          refine ⟨by (repeat' (first | refine agree_upd rfl ?_ | exact agree_over | exact agree_refl _ _ | refine agree_over2 rfl ?_)), mm - 1, _, by omega, Ent.refl _ _, ?_⟩
          exact ⟨k + 1, by omega, rfl, by rw [hst] <;> rfl⟩
  · obtain rfl : k = l.length := by omega
    repeat' (first|(apply OK_seq)|(apply thenQ_n)|(apply OK_region)|(apply OKx_nilK)|(apply blockQ_s)|(apply thenQ_e)|(apply OK_condF;exact rfl)|(apply OK_exit)|(apply OK_ret)|(apply OKx_lss;exact rfl;exact rfl;all_goals (intro _; try (exfalso;omega)))|(apply OKx_ldBA;exact rfl; (apply atP;constructor);exact rfl)|(apply OKx_stBA; kernel_rfl;exact rfl;exact rfl;exact rfl; (apply atP;constructor);exact rfl;exact rfl;exact rfl))
    (apply bodyC_r;exact rfl; (apply atP;constructor);exact rfl)
    · exact ⟨_, Ent.nil, rfl, rfl⟩
    · exact rfl
theorem runM_bd (l : List Elc) (w : List UInt8) (hl : l.length ≤ 64) : runM l w < 2 ^ 128 :=
  Nat.lt_of_lt_of_le (runM_lt l w) (Nat.pow_le_pow_right (by decide) (by omega))
theorem OKx_idxB7 {P : Program} {n : Nat} {w0 : World} {K : Fm → List Res → Prop} {F : Fm} {L : List Res} {m : Md} {ops : Array Oper} {rest : List Oper} {d : Option Nat} {ty : TypeId} {pos : String} {aft : Array Edge} {t : TypeId} [T : TStr P t] {x ix : Operand} {s : List UInt8} {k : IntKind} {i : Nat} (hx : rv n F x = .string (bOf s)) (hix : rv n F ix = .int k (i : Int)) (h1 : i < s.length)
    (kk : OKx P n w0 m ops K rest (updo F d (.int .u8 ((s.getD i 0).toNat : Int))) L) : OKx P n w0 m ops K (⟨d, .index t x ix, ty, pos, aft, none⟩ :: rest) F L := by
  have e : (bOf s)[i]'(by rw [bOf_size]; exact h1) = s.getD i 0 := by
    rw [getD_lt _ _ _ h1]
    rfl
  refine OKx_idxS hx hix (by rw [bOf_size]; exact h1) ?_
  rw [e]
  exact kk
set_option maxRecDepth 100000 in
set_option maxHeartbeats 4000000 in
theorem matches_sat (v : Value) (l : List Elc) (s : List UInt8) (w : World) (h : EsR w v l) (hl : l.length ≤ 64) (hs : s.length ≤ 140737488355328) :
    SatV Tryz.prog 193 [v, .string (bOf s)] w (.bool (mtB l s)) := by
  have hes := h
  obtain ⟨f, hsl, hf⟩ := h
  have hz : (bOf s).size = s.length := bOf_size s
  have hcn := fun (m' : Nat) (c : UInt8) w1 (hb : Below w.heap.size w w1) => next_sat m' c v l w1 (hes.below hb)
  have hcw := fun (m' i : Nat) w1 (hb : Below w.heap.size w w1) => with_sat m' i v l w1 (hes.below hb)
  have e0 : stV (clsM l 0) = stV (0 ||| clsM (l.drop 0) 0) := by rw [List.drop_zero, Nat.zero_or]
  refine SatL.of 26 [4] Tryz.func193 (by kernel_rfl) (by kernel_rfl) rfl rfl rfl rfl ?_
  repeat' (first|(apply OK_seq)|(apply thenQ_n)|(apply OK_region)|(refine OKx_build0A Tryz.underlying200 ?_)|(apply OKx_gc 209;exact rfl; refine OKx_callV (f := 209) (v := stV (clsM l 0)) rfl rfl rfl (fun w1 hp => by rw [e0]; exact hcw 0 0 w1 hp.below (by decide) hl (Nat.zero_le _)) ?_)|(apply OKx_nilK)|(apply OK_block)|(apply OKx_move;(conv=>lhs;whnf)<;>exact rfl)|(apply OKx_assign;(conv=>lhs;whnf)<;>exact rfl)|(apply OKx_lenS;exact rfl)|(apply OKx_allocA;intro _)|(apply OKx_stBA; kernel_rfl;exact rfl;exact rfl;exact rfl; (apply atP;constructor);exact rfl;exact rfl;exact rfl))
  rename_i g5
  refine OK_loop1 12 [6, 12, 13, 14, 15, 16, 17, 18, 19, 20, 21] (fun mm u L => ∃ k : Nat, k + mm = s.length ∧ u = .int .i64 (k : Int) ∧ L = [.box 200 g5 [.int .u64 ((runM l (s.take k) % 18446744073709551616 : Nat) : Int), .int .u64 ((runM l (s.take k) / 18446744073709551616 : Nat) : Int)]]) s.length _ (Ent.refl _ _) ⟨0, by omega, rfl, rfl⟩ ?_
  rintro mm u L G ⟨k, hkm, rfl, rfl⟩
  have hb := runM_bd l (s.take k) hl
  by_cases hk : k < s.length
  · have hst : runM l (s.take (k + 1)) = nxtM l (runM l (s.take k)) (s.getD k 0) := by
      rw [List.take_add_one, List.getElem?_eq_getElem hk, getD_lt _ _ _ hk]
      exact runM_snoc l _ _
    repeat' (first|(apply OK_seq)|(apply thenQ_n)|(apply OK_region)|(refine OKx_idxB7 (i := k) rfl rfl hk ?_)|(apply OKx_gc 210;exact rfl; refine OKx_callV (f := 210) (v := stV (runM l (s.take (k + 1)))) rfl rfl rfl (fun w1 hp => by rw [hst]; exact hcn (runM l (s.take k)) (s.getD k 0) w1 hp.below hb hl) ?_)|(refine OK_rid 5 ?_; refine OK_mix2 [] [0, 1, 2, 3, 4] [] [5] [6] [.box 200 g5 [.int .u64 ((runM l (s.take k) % 18446744073709551616 : Nat) : Int), .int .u64 ((runM l (s.take k) / 18446744073709551616 : Nat) : Int)]] (id := 5) (by kernel_rfl) (by kernel_rfl) rfl (by first | exact Ent.pick [0] rfl) (by ((try simp only [pickO]) <;> exact rfl)) (by ((try simp only [pickO, nthO, List.cons_append, List.nil_append]) <;> exact rfl)) (by ((try simp only [pickO]) <;> exact rfl)) (by ((try simp only [pickO, nthO, List.cons_append, List.nil_append]) <;> exact rfl)) (by ((try simp only [pickO, nthO, List.cons_append, List.nil_append]) <;> exact rfl)) ?_)|(apply OKx_nilK)|(apply OK_block)|(apply blockQ_n)|(apply OK_condT;exact rfl)|(apply OK_skip)|(apply OKx_move;(conv=>lhs;whnf)<;>exact rfl)|(apply OKx_assign;(conv=>lhs;whnf)<;>exact rfl)|(apply OKx_lss;exact rfl;exact rfl;all_goals (intro _; try (exfalso;omega)))|(apply OKx_inc;exact rfl;exact rfl;omega)|(apply OKx_ldBA;exact rfl; (apply atP;constructor);exact rfl)|(apply OKx_stBA; kernel_rfl;exact rfl;exact rfl;exact rfl; (apply atP;constructor);exact rfl;exact rfl;exact rfl))
    refine ⟨by (repeat' (first | refine agree_upd rfl ?_ | exact agree_over | exact agree_refl _ _ | refine agree_over2 rfl ?_)), mm - 1, _, by omega, Ent.refl _ _, ?_⟩
    exact ⟨k + 1, by omega, rfl, rfl⟩
  · obtain rfl : k = s.length := by omega
    rw [List.take_length] at hb ⊢
    have hb2 := fun w1 => has_sat (runM l s) l.length w1 hb (by omega)
    repeat' (first|(apply OK_seq)|(apply thenQ_n)|(apply OK_region)|(apply OKx_gc 211;exact rfl; refine OKx_callV (f := 211) (v := .bool (mtB l s)) rfl rfl rfl (fun w1 hp => hb2 w1) ?_)|(apply OKx_nilK)|(apply blockQ_s)|(apply thenQ_e)|(apply OK_condF;exact rfl)|(apply OK_exit)|(apply OK_ret)|(apply OKx_move;(conv=>lhs;whnf)<;>exact rfl)|(apply OKx_assign;(conv=>lhs;whnf)<;>exact rfl)|(apply OKx_lenR;(conv=>lhs;whnf)<;>exact rfl;(with_reducible assumption))|(apply OKx_lss;exact rfl;exact rfl;all_goals (intro _; try (exfalso;omega)))|(apply OKx_ldBA;exact rfl; (apply atP;constructor);exact rfl))
    refine bodyQ_r1 (by ((conv=>lhs;whnf)<;>exact rfl)) ?_
    exact ⟨_, Ent.nil, rfl, rfl⟩
end Go.Proofs.YthnlnffmmioapaaGreatDoor
namespace Go.Proofs.YthnlnffmmioapaaGreatDoor
open Go.RowKit
def BytesAt (l : List UInt8) (o : Obj) : Prop := ∃ C e fz, o = .cells C e fz ∧ ∀ (j : Nat) (b : UInt8), l[j]? = some b → C[j]? = some (.int .u8 (b.toNat : Int))
theorem bOf_app7 (a b : List UInt8) : bOf a ++ bOf b = bOf (a ++ b) := by
  apply ByteArray.ext
  simp [bOf]
section
variable {P : Program} {n : Nat} {w0 : World} {K : Fm → List Res → Prop} {F : Fm} {L : List Res} {m : Md} {Lw : List Res} {ops : Array Oper} {rest : List Oper} {d : Option Nat} {ty : TypeId} {pos : String} {aft : Array Edge}
theorem OKx_convSB {src dst e : TypeId} {x : Operand} {s : List UInt8} [hE : Keeps w0 L Lw] (hx : rv n F x = .string (bOf s)) (hs : P.underlying src = some .string) (hd : P.underlying dst = some (.slice e)) (he : P.underlying e = some (.int .u8))
    (kk : ∀ g c, OKx P n w0 (.seq Lw) ops K rest (updo F d (.slice (some ⟨g, 0, none⟩) s.length c)) (.obj g (BytesAt s) :: L)) :
    OKx P n w0 (.seq Lw) ops K (⟨d, .convert src dst x, ty, pos, aft, none⟩ :: rest) F L := by
  refine OKx_act hE.ent fun w hp => ⟨_, w.drew.alloc (.cells (bytesRow (bOf s) (grownCap w (bOf s).size 0 e)) e ((bytesRow (bOf s) (grownCap w (bOf s).size 0 e)).size, (bytesRow (bOf s) (grownCap w (bOf s).size 0 e)).size + 1)), _, ?_, ?_, kk w.heap.size (grownCap w (bOf s).size 0 e)⟩
  · simp only [execOp, hx, Sem.run_bind, run_bytes_of_string w src dst e (bOf s) hs hd he, Result.andThen]
    rfl
  · refine hp.drew.fresh (r := .obj w.heap.size (BytesAt s)) ⟨hp.base, _, heap_alloc_new w.drew _, _, _, _, rfl, ?_⟩ ((Below.refl _ _).alloc (Nat.le_refl _) _) (fun j hj => by simp [Res.blk] at hj; subst hj; exact Nat.le_refl _)
    intro j b hj
    have hlt := (List.getElem?_eq_some_iff.1 hj).1
    unfold bytesRow
    rw [Array.getElem?_append_left (by simpa [bOf] using hlt)]
    simp [bOf, hj]
theorem OKx_ldO {t : TypeId} {z : Value} [T : TOne P t z] {x : Operand} {g k : Nat} {s : List UInt8} (i : Nat) (hx : rv n F x = .pointer (some ⟨g, k, none⟩)) (hi : L[i]? = some (.obj g (BytesAt s))) (hk : k < s.length)
    (kk : OKx P n w0 m ops K rest (updo F d (.int .u8 ((s.getD k 0).toNat : Int))) L) : OKx P n w0 m ops K (⟨d, .load t x, ty, pos, aft, none⟩ :: rest) F L :=
  OKx_still (fun w hp _ _ _ _ => run_load1 T hx (by
    obtain ⟨_, o, ho, C, e, fz, rfl, hC⟩ : w0.heap.size ≤ g ∧ ∃ o, w.heap[g]? = some o ∧ BytesAt s o := hp.ok _ (List.mem_of_getElem? hi)
    have := hC k (s.getD k 0) (by rw [getD_lt _ _ _ hk]; exact List.getElem?_eq_getElem hk)
    simp [World.cell?, ho, this]) _ _ _ _) kk
theorem OKx_sslL7 {t : TypeId} [T : TStr P t] {x lo : Operand} {s r : List UInt8} {l : Nat} {k : IntKind} (hx : rv n F x = .string (bOf s)) (hl : rv n F lo = .int k (l : Int)) (h1 : l ≤ s.length) (hr : s.drop l = r)
    (kk : OKx P n w0 m ops K rest (updo F d (.string (bOf r))) L) : OKx P n w0 m ops K (⟨d, .slice t x (some lo) none none, ty, pos, aft, none⟩ :: rest) F L :=
  OKx_still (fun w _ _ _ _ _ => by
    have h2 := run_sliceAt_string (P := P) (w := w) t (.string (bOf s)) (some (.int k (l : Int))) none none T.und
    have h3 := run_slice_string_l (P := P) w t (bOf s) T.und k (l : Int) (by omega) (by rw [bOf_size];omega)
    have e : (bOf s).extract l (bOf s).size = bOf r := by
      rw [Lib.extract_eq, data_bOf, bOf_size, List.take_of_length_le (by simp), hr]
      rfl
    rw [Int.toNat_natCast, e] at h3
    rw [h3] at h2
    simp [execOp, hx, hl, h2, Result.andThen]) kk
theorem OKx_sadd7 {t ut : TypeId} {x y : Operand} {a b c : List UInt8} (hx : rv n F x = .string (bOf a)) (hy : rv n F y = .string (bOf b)) (hl : a.length + b.length ≤ 9223372036854775807) (hc : a ++ b = c)
    (k : OKx P n w0 m ops K rest (updo F d (.string (bOf c))) L) : OKx P n w0 m ops K (⟨d, .binOp .add t x y ut, ty, pos, aft, none⟩ :: rest) F L := by
  refine OKx_sadd hx hy hl ?_
  rw [bOf_app7, hc]
  exact k
theorem OKx_sslLH {t : TypeId} [T : TStr P t] {x lo hi : Operand} {s r : List UInt8} {l h : Nat} {k k' : IntKind} (hx : rv n F x = .string (bOf s)) (hl : rv n F lo = .int k (l : Int)) (hh : rv n F hi = .int k' (h : Int)) (h1 : l ≤ h) (h2 : h ≤ s.length) (hr : (s.take h).drop l = r)
    (kk : OKx P n w0 m ops K rest (updo F d (.string (bOf r))) L) : OKx P n w0 m ops K (⟨d, .slice t x (some lo) (some hi) none, ty, pos, aft, none⟩ :: rest) F L :=
  OKx_still (fun w _ _ _ _ _ => by
    have h2' := run_sliceAt_string (P := P) (w := w) t (.string (bOf s)) (some (.int k (l : Int))) (some (.int k' (h : Int))) none T.und
    have h3 := run_slice_string_if (P := P) (w := w) t (bOf s) k k' (l : Int) (h : Int) T.und
    have e : (bOf s).extract l h = bOf r := by
      rw [Lib.extract_eq, data_bOf, ← hr, List.drop_take]
      rfl
    rw [if_pos ⟨by omega, by rw [bOf_size];omega⟩, if_pos ⟨by omega, by omega⟩, Int.toNat_natCast, Int.toNat_natCast, e] at h3
    rw [h3] at h2'
    simp [execOp, hx, hl, hh, h2', Result.andThen]) kk
theorem OKx_convBS {src dst e e' : TypeId} {x : Operand} {s : List UInt8} {N : Nat} {v : Value} (i : Nat) (hx : rv n F x = v) (hi : L[i]? = some (.row e' 1 v N (s.map fun b => .int .u8 (b.toNat : Int)))) (hs : P.underlying src = some (.slice e)) (he : P.underlying e = some (.int .u8)) (hd : P.underlying dst = some .string)
    (kk : OKx P n w0 m ops K rest (updo F d (.string (bOf s))) L) : OKx P n w0 m ops K (⟨d, .convert src dst x, ty, pos, aft, none⟩ :: rest) F L :=
  OKx_still (fun w hp _ _ _ _ => by
    have ho : w.ownsRow w0.heap.size e' 1 v N (s.map fun b => .int .u8 (b.toNat : Int)) := hp.ok _ (List.mem_of_getElem? hi)
    have hN : N = s.length := by have := ho.1; simpa using this.symm
    subst hN
    have hr : (convert src dst v).run P w = .ok (.string (bOf s)) w := by
      rcases ho.2 with ⟨rfl, h0⟩ | ⟨g, cap, cur, rfl, _⟩
      · have h1 : s = [] := List.length_eq_zero_iff.1 h0
        subst h1
        have e1 : (convert src dst (.slice none 0 0)).run P w = .ok (.string (bOf [])) w := by
          rw [run_convert_bytes_string w src dst e none 0 0 hs he hd]
          simp [Conv.bytesToString]
          rfl
        exact e1
      · refine run_convert_bytes_back w src dst e ⟨g, 0, none⟩ cap s hs he hd fun j hj => ?_
        have := (hp.rowAt i hi).1 j (by simpa using hj)
        rw [add_at, Nat.zero_add, this]
        simp [hj]
    simp [execOp, hx, hr, Sem.run_bind, Result.andThen]) kk
end
theorem idxB_eq (s : List UInt8) (c : UInt8) : Lib.indexByte s c = if (s.takeWhile (fun x => decide (x ≠ c))).length = s.length then -1 else ((s.takeWhile (fun x => decide (x ≠ c))).length : Int) := by
  induction s with
  | nil => rfl
  | cons b l ih =>
    unfold Lib.indexByte
    by_cases hb : b = c
    · subst hb
      simp
    · have hb' : (b == c) = false := beq_eq_false_iff_ne.2 hb
      have hd : decide (b ≠ c) = true := decide_eq_true hb
      rw [List.takeWhile_cons, hb', if_neg (by decide), if_pos hd, ih, List.length_cons, List.length_cons]
      by_cases h : (l.takeWhile (fun x => decide (x ≠ c))).length = l.length
      · rw [if_pos h]
        exact (if_pos (congrArg (· + 1) h)).symm
      · rw [if_neg h]
        refine Eq.trans ?_ (if_neg (fun hh => h (Nat.succ.inj hh))).symm
        have : ¬ ((((l.takeWhile (fun x => decide (x ≠ c))).length : Int) == -1) = true) := by
          rw [beq_iff_eq];omega
        rw [if_neg this]
        rfl
theorem idxB_mem (s : List UInt8) (c : UInt8) : (0 ≤ Lib.indexByte s c) ↔ c ∈ s := by
  induction s with
  | nil => simp [Lib.indexByte]
  | cons b l ih =>
    unfold Lib.indexByte
    by_cases hb : b = c
    · subst hb
      simp
    · have hb' : (b == c) = false := beq_eq_false_iff_ne.2 hb
      rw [hb', if_neg (by decide), List.mem_cons, ← ih]
      have hg := Lib.indexByte_ge l c
      by_cases h : (Lib.indexByte l c == -1) = true
      · rw [if_pos h]
        rw [beq_iff_eq] at h
        constructor
        · omega
        · rintro (h1 | h1)
          · exact absurd h1.symm hb
          · omega
      · rw [if_neg h]
        rw [beq_iff_eq] at h
        constructor
        · intro; right;omega
        · intro;omega
set_option maxRecDepth 100000 in
set_option maxHeartbeats 4000000 in
theorem idxByte_sat (s : List UInt8) (c : UInt8) (w : World) : SatV Tryz.prog 121 [.string (bOf s), .int .u8 (c.toNat : Int)] w (.int .i64 (Lib.indexByte s c)) :=
  Sat.lib ⟨_, _, Tryz.func121, by kernel_rfl, rfl⟩ fun w1 hb => by
    refine (Tryz.strings_IndexByte (bOf s) (c.toNat : Int) w1).mono ?_
    rintro e w' ⟨rfl, rfl⟩
    refine ⟨_, [], rfl, Hp.refl _, ?_, rfl⟩
    have hc : (c.toNat : Int).toNat.toUInt8 = c := by
      rw [Int.toNat_natCast]
      exact UInt8.ofNat_toNat
    rw [hc, data_bOf]
set_option maxRecDepth 100000 in
set_option maxHeartbeats 4000000 in
theorem contains_one_sat (s : List UInt8) (c : UInt8) (w : World) : SatV Tryz.prog 55 [.string (bOf s), .string ⟨#[c]⟩] w (.bool (decide (c ∈ s))) :=
  Sat.lib ⟨_, _, Tryz.func55, by kernel_rfl, rfl⟩ fun w1 hb => by
    refine (Tryz.strings_Contains_one (bOf s) c w1).mono ?_
    rintro e w' ⟨rfl, rfl⟩
    refine ⟨_, [], rfl, Hp.refl _, ?_, rfl⟩
    rw [data_bOf]
    exact congrArg Value.bool (decide_eq_decide.2 (idxB_mem s c))
end Go.Proofs.YthnlnffmmioapaaGreatDoor
