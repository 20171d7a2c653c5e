/-
  Part 27 of the proof: Fs07. No statement of the seat is proved here.
-/
import Derived.Test.YthnlnffmmioapaaGreatDoorMHHo2726
namespace Go.Proofs.YthnlnffmmioapaaGreatDoor
open Go.RowKit
theorem strs_snoc8 (xs : List (List UInt8)) (x : List UInt8) : strs ((xs ++ [x]).map bOf) = strs (xs.map bOf) ++ [.string (bOf x)] := by simp [strs]
def rElsR (p : List UInt8) (u : Value) (L : List Res) : Prop := L = [.row 9 1 u (prts p).length (strs ((prts p).map bOf))]
set_option maxRecDepth 100000 in
set_option maxHeartbeats 4000000 in
theorem rEls_sat (p : List UInt8) (w : World) (hp : patE p = 0) : Sat Tryz.prog 103 [.string (bOf p)] w (rElsR p) := by
  have hz : (bOf p).size = p.length := bOf_size p
  obtain ⟨hl, he⟩ := patE_len hp
  refine SatL.of 24 [2] Tryz.func103 (by kernel_rfl) (by kernel_rfl) rfl rfl rfl rfl ?_
  repeat' (first|(apply OK_seq)|(apply thenQ_n)|(apply OK_region)|(apply OKx_nilK)|(apply OK_block)|(apply blockQ_n)|(apply blockQ_s)|(apply thenQ_e)|(apply blockQ_e;exact rfl)|(apply thenQ_r)|(apply blockQ_r)|(apply OK_condT;exact rfl)|(apply OK_condF;exact rfl)|(apply OK_skip)|(apply OK_exit)|(apply OK_ret)|(apply OKx_move;(conv=>lhs;whnf)<;>exact rfl)|(apply OKx_assign;(conv=>lhs;whnf)<;>exact rfl)|(apply OKx_lenS;exact rfl)|(apply OKx_gtr;exact rfl;exact rfl;all_goals (intro _; try (exfalso;omega)))|(apply OKx_extract;exact rfl;(conv=>lhs;whnf)<;>exact rfl)|(apply OKx_slit1;(conv=>lhs;whnf)<;>exact rfl;exact rfl;intro _))
  refine OK_loop2 0 3 [0, 3, 4, 5, 6, 7, 8, 9, 10, 11, 12, 13, 14, 15, 16, 17, 18, 19, 20, 21, 22] (fun mm u0 u3 L => ∃ (k : Nat) (done : List (List UInt8)), k + mm = p.length ∧ inv p k done ∧ u0 = .string (bOf (p.drop k)) ∧ L = [.row 9 1 u3 done.length (strs (done.map bOf))]) p.length _ (Ent.mk fun w1 h1 => h1.nil _ _) ⟨0, [], by omega, inv_0 p, rfl, rfl⟩ ?_
  rintro mm u0 u3 L G ⟨k, done, hkm, hinv, rfl, rfl⟩
  have hzd : (bOf (p.drop k)).size = p.length - k := by rw [bOf_size, List.length_drop]
  by_cases hk : k < p.length
  · have hne : p.drop k ≠ [] := fun e => by
      have := congrArg List.length e
      rw [List.length_drop, List.length_nil] at this
      omega
    have hek : elErr (p.drop k) = 0 := by
      have h1 := hinv.2.2.1
      rw [he, errP_cons hne] at h1
      by_cases h2 : elErr (p.drop k) = 0
      · exact h2
      · rw [if_pos h2] at h1
        exact h1.symm
    have ce := fun w1 => elem7_sat (p.drop k) w1 hne (by rw [List.length_drop];omega)
    have hnx := inv_next hinv hk hek
    have h1 : elN (p.drop k) = elLen (p.drop k) := by unfold elN; rw [if_pos hek]
    have h2 := first_ok hne hek
    rw [List.length_drop] at h2
    have h3 := elLen_pos hne
    have hdl := hinv.2.2.2.2
    rw [hek, h1] at ce
    repeat' (first|(apply OK_seq)|(apply thenQ_n)|(apply OK_region)|(apply OKx_gc 119;exact rfl; refine OKx_callV (f := 119) rfl rfl rfl (fun w1 hp => ce w1) ?_)|(refine OKx_sslH7 (s := p.drop k) (h := elLen (p.drop k)) rfl rfl (by rw [List.length_drop];omega) rfl ?_)|(refine OKx_sslL7 (s := p.drop k) (l := elLen (p.drop k)) rfl rfl (by rw [List.length_drop];omega) (by rw [List.drop_drop]) ?_)|(apply OKx_gb; refine OKx_append1 1 0 rfl rfl rfl rfl rfl (by omega) (by omega) ?_; intro gr cr)|(apply OKx_nilK)|(apply OK_block)|(apply blockQ_n)|(apply blockQ_s)|(apply thenQ_e)|(apply blockQ_e;exact rfl)|(apply thenQ_r)|(apply blockQ_r)|(apply OK_condT;exact rfl)|(apply OK_condF;exact rfl)|(apply OK_skip)|(apply OK_exit)|(apply OK_ret)|(apply OKx_move;(conv=>lhs;whnf)<;>exact rfl)|(apply OKx_assign;(conv=>lhs;whnf)<;>exact rfl)|(apply OKx_lenS;exact rfl)|(apply OKx_gtr;exact rfl;exact rfl;all_goals (intro _; try (exfalso;omega)))|(apply OKx_extract;exact rfl;(conv=>lhs;whnf)<;>exact rfl)|(apply OKx_slit1;(conv=>lhs;whnf)<;>exact rfl;exact rfl;intro _))
    refine ⟨by (repeat' (first | refine agree_upd rfl ?_ | exact agree_over | exact agree_refl _ _ | refine agree_over2 rfl ?_)), mm - elLen (p.drop k), _, by omega, Ent.pick [1] rfl, ?_⟩
    exact ⟨k + elLen (p.drop k), _, by omega, hnx.1, rfl, by rw [strs_snoc8, List.length_append] <;> rfl⟩
  · obtain rfl : k = p.length := by have := hinv.1;omega
    have hd : prts p = done := by
      have := hinv.2.1
      rw [List.drop_length, prts_nil, List.append_nil] at this
      exact this
    repeat' (first|(apply OK_seq)|(apply thenQ_n)|(apply OK_region)|(apply OKx_nilK)|(apply OK_block)|(apply blockQ_n)|(apply blockQ_s)|(apply thenQ_e)|(apply blockQ_e;exact rfl)|(apply thenQ_r)|(apply blockQ_r)|(apply OK_condT;exact rfl)|(apply OK_condF;exact rfl)|(apply OK_skip)|(apply OK_exit)|(apply OK_ret)|(apply OKx_move;(conv=>lhs;whnf)<;>exact rfl)|(apply OKx_assign;(conv=>lhs;whnf)<;>exact rfl)|(apply OKx_lenS;exact rfl)|(apply OKx_gtr;exact rfl;exact rfl;all_goals (intro _; try (exfalso;omega)))|(apply OKx_extract;exact rfl;(conv=>lhs;whnf)<;>exact rfl)|(apply OKx_slit1;(conv=>lhs;whnf)<;>exact rfl;exact rfl;intro _))
    refine bodyQ_r1 (by ((conv=>lhs;whnf)<;>exact rfl)) ?_
    exact ⟨_, Ent.refl _ _, by unfold rElsR; rw [hd]⟩
theorem part_91 {x : List UInt8} (hx : okPart x) (h : x.getD 0 0 = 91) : closeI x + 1 = x.length ∧ 2 ≤ closeI x ∧ (∀ c, elHas x c = true ↔ ∃ j, 1 ≤ j ∧ j < closeI x ∧ x.getD j 0 = c) ∧ elAny x = false := by
  obtain ⟨hne, he, hl⟩ := hx
  obtain ⟨c, r, rfl⟩ := head_ne hne
  obtain rfl : c = 91 := h
  have h1 := el_91 (r := r)
  have hc := closeI_le (91 :: r)
  rw [h1.2] at hl
  rw [he] at h1
  have h2 : ¬ (closeI (91 :: r) = (91 :: r).length ∨ closeI (91 :: r) < 2) := fun hh => by
    have := h1.1
    rw [if_pos hh] at this
    cases this
  refine ⟨hl, by omega, fun c => ?_, rfl⟩
  have e : elHas (91 :: r) c = (inner (91 :: r)).contains c := by
    unfold elHas
    dsimp only
    rw [if_neg (by decide), if_neg (by decide), if_pos rfl]
  rw [e, List.contains_iff_mem]
  unfold inner
  constructor
  · intro hm
    obtain ⟨i, hi, e⟩ := List.getElem_of_mem hm
    rw [List.length_drop, List.length_take] at hi
    refine ⟨1 + i, by omega, by omega, ?_⟩
    rw [List.getElem_drop, List.getElem_take] at e
    rw [getD_lt _ _ _ (by omega)]
    exact e
  · rintro ⟨j, hj1, hj2, rfl⟩
    refine List.mem_of_getElem? (i := j - 1) ?_
    rw [List.getElem?_drop, show 1 + (j - 1) = j by omega, List.getElem?_take_of_lt hj2, getD_lt _ _ _ (by omega)]
    exact List.getElem?_eq_getElem _
theorem part_one {x : List UInt8} (hx : okPart x) (h : x.getD 0 0 ≠ 91) : ∃ c, x = [c] ∧ c ≠ 91 ∧ c ≠ 93 := by
  obtain ⟨hne, he, hl⟩ := hx
  obtain ⟨c, r, rfl⟩ := head_ne hne
  have h' : c ≠ 91 := h
  have h93 : c ≠ 93 := fun e => by
    rw [e, el_93] at he
    cases he
  have hl' : elLen (c :: r) = 1 := by
    unfold elLen
    dsimp only
    rw [if_neg h']
  rw [hl', List.length_cons] at hl
  have hr : r = [] := List.length_eq_zero_iff.1 (by omega)
  exact ⟨c, by rw [hr], h', h93⟩
theorem has_one {c : UInt8} (h : c ≠ 91) (h2 : c ≠ 42) (b : UInt8) : elHas [c] b = (decide (c = 63) || decide (b = c)) := by
  unfold elHas
  dsimp only
  by_cases h3 : c = 63
  · rw [if_pos h3, decide_eq_true h3]; rfl
  · rw [if_neg h3, if_neg h2, if_neg h, decide_eq_false h3]; rfl
theorem bOf_inj8 {a b : List UInt8} (h : bOf a = bOf b) : a = b := by
  have h2 := congrArg (fun x : ByteArray => x.data.toList) h
  simpa [bOf] using h2
set_option maxRecDepth 100000 in
set_option maxHeartbeats 4000000 in
theorem stands_sat (x : List UInt8) (c : UInt8) (w : World) (hx : okPart x) (ha : elAny x = false) (hl : x.length ≤ 64) : SatV Tryz.prog 120 [.string (bOf x), .int .u8 (c.toNat : Int)] w (.bool (elHas x c)) := by
  have hz : (bOf x).size = x.length := bOf_size x
  have h0 : 0 < x.length := by
    cases x with
    | nil => exact absurd rfl hx.1
    | cons _ _ => rw [List.length_cons];omega
  by_cases h91 : x.getD 0 0 = 91
  · obtain ⟨h1, h2, h3, _⟩ := part_91 hx h91
    have hn : (x.getD 0 0).toNat = 91 := by rw [h91]; rfl
    refine SatL.of 29 [4] Tryz.func120 (by kernel_rfl) (by kernel_rfl) rfl rfl rfl rfl ?_
    repeat' (first|(apply OK_seq)|(apply thenQ_n)|(apply OK_region)|(refine OKx_idxB7 (s := x) (i := 0) rfl rfl h0 ?_)|(apply OKx_nilK)|(apply OK_block)|(apply blockQ_n)|(apply blockQ_s)|(apply thenQ_e)|(apply blockQ_e;exact rfl)|(apply thenQ_r)|(apply blockQ_r)|(apply OK_condT;exact rfl)|(apply OK_condF;exact rfl)|(apply OK_skip)|(apply OK_exit)|(apply OK_ret)|(apply OKx_move;(conv=>lhs;whnf)<;>exact rfl)|(apply OKx_assign;(conv=>lhs;whnf)<;>exact rfl)|(apply OKx_lenS;exact rfl)|(apply OKx_lss;exact rfl;exact rfl;all_goals (intro _; try (exfalso;omega)))|(apply OKx_eql;exact rfl;exact rfl;all_goals (intro _; try (exfalso;omega)))|(apply OKx_neq;exact rfl;exact rfl;all_goals (intro _; try (exfalso;omega)))|(apply OKx_seql;exact rfl;exact rfl; all_goals intro _)|(apply OKx_idxS;exact rfl;exact rfl;omega)|(apply OKx_inc;exact rfl;exact rfl;omega)|(apply OKx_addN;exact rfl;exact rfl;omega)|(apply OKx_add;exact rfl;exact rfl;omega;omega)|(apply OKx_pickT;exact rfl;(conv=>lhs;whnf)<;>exact rfl)|(apply OKx_pickF;exact rfl;(conv=>lhs;whnf)<;>exact rfl)|(apply OKx_guardT;exact rfl;exact rfl)|(apply OKx_guardF;exact rfl;exact rfl)|(apply OKx_guardU;exact rfl;exact rfl))
    refine OK_loop1 5 [4, 5, 17, 18, 19, 20, 21, 22, 23, 24, 25, 26, 27, 28] (fun mm u5 L => ∃ i : Nat, i + mm = closeI x ∧ 1 ≤ i ∧ (∀ j, 1 ≤ j → j < i → (x.getD j 0).toNat ≠ c.toNat) ∧ u5 = .int .i64 (i : Int) ∧ L = []) (closeI x - 1) _ (Ent.refl _ _) ⟨1, by omega, Nat.le_refl _, fun j h1 h2 => absurd h1 (by omega), rfl, rfl⟩ ?_
    rintro mm u5 L G ⟨i, him, hi1, hall, rfl, rfl⟩
    by_cases hi : i < closeI x
    · by_cases hc : (x.getD i 0).toNat = c.toNat
      · have ht : elHas x c = true := (h3 c).2 ⟨i, hi1, hi, UInt8.toNat_inj.1 hc⟩
        rw [ht]
        repeat' (first|(apply OK_seq)|(apply thenQ_n)|(apply OK_region)|(refine OKx_idxB7 (s := x) (i := i) rfl rfl (by omega) ?_)|(apply OKx_nilK)|(apply OK_block)|(apply blockQ_n)|(apply blockQ_s)|(apply thenQ_e)|(apply blockQ_e;exact rfl)|(apply thenQ_r)|(apply blockQ_r)|(apply OK_condT;exact rfl)|(apply OK_condF;exact rfl)|(apply OK_skip)|(apply OK_exit)|(apply OK_ret)|(apply OKx_move;(conv=>lhs;whnf)<;>exact rfl)|(apply OKx_assign;(conv=>lhs;whnf)<;>exact rfl)|(apply OKx_lenS;exact rfl)|(apply OKx_lss;exact rfl;exact rfl;all_goals (intro _; try (exfalso;omega)))|(apply OKx_eql;exact rfl;exact rfl;all_goals (intro _; try (exfalso;omega)))|(apply OKx_neq;exact rfl;exact rfl;all_goals (intro _; try (exfalso;omega)))|(apply OKx_seql;exact rfl;exact rfl; all_goals intro _)|(apply OKx_idxS;exact rfl;exact rfl;omega)|(apply OKx_inc;exact rfl;exact rfl;omega)|(apply OKx_addN;exact rfl;exact rfl;omega)|(apply OKx_add;exact rfl;exact rfl;omega;omega)|(apply OKx_pickT;exact rfl;(conv=>lhs;whnf)<;>exact rfl)|(apply OKx_pickF;exact rfl;(conv=>lhs;whnf)<;>exact rfl)|(apply OKx_guardT;exact rfl;exact rfl)|(apply OKx_guardF;exact rfl;exact rfl)|(apply OKx_guardU;exact rfl;exact rfl))
        refine bodyQ_r1 (by ((conv=>lhs;whnf)<;>exact rfl)) ?_
        exact ⟨_, Ent.nil, rfl, rfl⟩
      · repeat' (first|(apply OK_seq)|(apply thenQ_n)|(apply OK_region)|(refine OKx_idxB7 (s := x) (i := i) rfl rfl (by omega) ?_)|(apply OKx_nilK)|(apply OK_block)|(apply blockQ_n)|(apply blockQ_s)|(apply thenQ_e)|(apply blockQ_e;exact rfl)|(apply thenQ_r)|(apply blockQ_r)|(apply OK_condT;exact rfl)|(apply OK_condF;exact rfl)|(apply OK_skip)|(apply OK_exit)|(apply OK_ret)|(apply OKx_move;(conv=>lhs;whnf)<;>exact rfl)|(apply OKx_assign;(conv=>lhs;whnf)<;>exact rfl)|(apply OKx_lenS;exact rfl)|(apply OKx_lss;exact rfl;exact rfl;all_goals (intro _; try (exfalso;omega)))|(apply OKx_eql;exact rfl;exact rfl;all_goals (intro _; try (exfalso;omega)))|(apply OKx_neq;exact rfl;exact rfl;all_goals (intro _; try (exfalso;omega)))|(apply OKx_seql;exact rfl;exact rfl; all_goals intro _)|(apply OKx_idxS;exact rfl;exact rfl;omega)|(apply OKx_inc;exact rfl;exact rfl;omega)|(apply OKx_addN;exact rfl;exact rfl;omega)|(apply OKx_add;exact rfl;exact rfl;omega;omega)|(apply OKx_pickT;exact rfl;(conv=>lhs;whnf)<;>exact rfl)|(apply OKx_pickF;exact rfl;(conv=>lhs;whnf)<;>exact rfl)|(apply OKx_guardT;exact rfl;exact rfl)|(apply OKx_guardF;exact rfl;exact rfl)|(apply OKx_guardU;exact rfl;exact rfl))
        refine ⟨by (repeat' (first | refine agree_upd rfl ?_ | exact agree_over | exact agree_refl _ _ | refine agree_over2 rfl ?_)), mm - 1, _, by omega, Ent.refl _ _, ?_⟩
        refine ⟨i + 1, by omega, by omega, fun j g1 g2 => ?_, rfl, rfl⟩
        by_cases hji : j < i
        · exact hall j g1 hji
        · obtain rfl : j = i := by omega
          exact hc
    · obtain rfl : i = closeI x := by omega
      have hf : elHas x c = false := by
        cases hh : elHas x c with
        | false => rfl
        | true =>
          obtain ⟨j, g1, g2, g3⟩ := (h3 c).1 hh
          exact absurd (by rw [g3]) (hall j g1 g2)
      rw [hf]
      repeat' (first|(apply OK_seq)|(apply thenQ_n)|(apply OK_region)|(apply OKx_nilK)|(apply OK_block)|(apply blockQ_n)|(apply blockQ_s)|(apply thenQ_e)|(apply blockQ_e;exact rfl)|(apply thenQ_r)|(apply blockQ_r)|(apply OK_condT;exact rfl)|(apply OK_condF;exact rfl)|(apply OK_skip)|(apply OK_exit)|(apply OK_ret)|(apply OKx_move;(conv=>lhs;whnf)<;>exact rfl)|(apply OKx_assign;(conv=>lhs;whnf)<;>exact rfl)|(apply OKx_lenS;exact rfl)|(apply OKx_lss;exact rfl;exact rfl;all_goals (intro _; try (exfalso;omega)))|(apply OKx_eql;exact rfl;exact rfl;all_goals (intro _; try (exfalso;omega)))|(apply OKx_neq;exact rfl;exact rfl;all_goals (intro _; try (exfalso;omega)))|(apply OKx_seql;exact rfl;exact rfl; all_goals intro _)|(apply OKx_idxS;exact rfl;exact rfl;omega)|(apply OKx_inc;exact rfl;exact rfl;omega)|(apply OKx_addN;exact rfl;exact rfl;omega)|(apply OKx_add;exact rfl;exact rfl;omega;omega)|(apply OKx_pickT;exact rfl;(conv=>lhs;whnf)<;>exact rfl)|(apply OKx_pickF;exact rfl;(conv=>lhs;whnf)<;>exact rfl)|(apply OKx_guardT;exact rfl;exact rfl)|(apply OKx_guardF;exact rfl;exact rfl)|(apply OKx_guardU;exact rfl;exact rfl))
      refine bodyQ_r1 (by ((conv=>lhs;whnf)<;>exact rfl)) ?_
      exact ⟨_, Ent.nil, rfl, rfl⟩
  · obtain ⟨b, rfl, hb91, hb93⟩ := part_one hx h91
    have hb42 : b ≠ 42 := fun e => by
      subst e
      cases ha
    have hn : b.toNat ≠ 91 := fun e => hb91 (UInt8.toNat_inj.1 e)
    have hg : ([b] : List UInt8).getD 0 0 = b := rfl
    rw [has_one hb91 hb42]
    by_cases h63 : b = 63
    · subst h63
      refine SatL.of 29 [4] Tryz.func120 (by kernel_rfl) (by kernel_rfl) rfl rfl rfl rfl ?_
      repeat' (first|(apply OK_seq)|(apply thenQ_n)|(apply OK_region)|(refine OKx_idxB7 (s := [63]) (i := 0) rfl rfl h0 ?_; rw [hg])|(apply OKx_gn; apply OKx_seql;exact rfl;exact rfl; all_goals (intro hs; first | (exfalso; exact hs rfl) | skip))|(apply OKx_nilK)|(apply OK_block)|(apply blockQ_n)|(apply blockQ_s)|(apply thenQ_e)|(apply blockQ_e;exact rfl)|(apply thenQ_r)|(apply blockQ_r)|(apply OK_condT;exact rfl)|(apply OK_condF;exact rfl)|(apply OK_skip)|(apply OK_exit)|(apply OK_ret)|(apply OKx_move;(conv=>lhs;whnf)<;>exact rfl)|(apply OKx_assign;(conv=>lhs;whnf)<;>exact rfl)|(apply OKx_lenS;exact rfl)|(apply OKx_lss;exact rfl;exact rfl;all_goals (intro _; try (exfalso;omega)))|(apply OKx_eql;exact rfl;exact rfl;all_goals (intro _; try (exfalso;omega)))|(apply OKx_neq;exact rfl;exact rfl;all_goals (intro _; try (exfalso;omega)))|(apply OKx_seql;exact rfl;exact rfl; all_goals intro _)|(apply OKx_idxS;exact rfl;exact rfl;omega)|(apply OKx_inc;exact rfl;exact rfl;omega)|(apply OKx_addN;exact rfl;exact rfl;omega)|(apply OKx_add;exact rfl;exact rfl;omega;omega)|(apply OKx_pickT;exact rfl;(conv=>lhs;whnf)<;>exact rfl)|(apply OKx_pickF;exact rfl;(conv=>lhs;whnf)<;>exact rfl)|(apply OKx_guardT;exact rfl;exact rfl)|(apply OKx_guardF;exact rfl;exact rfl)|(apply OKx_guardU;exact rfl;exact rfl))
      refine bodyQ_r1 (by ((conv=>lhs;whnf)<;>exact rfl)) ?_
      exact ⟨_, Ent.nil, rfl, rfl⟩
    · rw [decide_eq_false h63, Bool.false_or]
      have hs63 : bOf [b] ≠ bOf [63] := fun e => by
        have := bOf_inj8 e
        cases this
        exact h63 rfl
      by_cases hbc : c = b
      · subst hbc
        rw [decide_eq_true rfl]
        refine SatL.of 29 [4] Tryz.func120 (by kernel_rfl) (by kernel_rfl) rfl rfl rfl rfl ?_
        repeat' (first|(apply OK_seq)|(apply thenQ_n)|(apply OK_region)|(refine OKx_idxB7 (s := [c]) (i := 0) rfl rfl h0 ?_; rw [hg])|(apply OKx_gn; apply OKx_seql;exact rfl;exact rfl; all_goals (intro hs; first | (exfalso; exact hs63 hs) | skip))|(apply OKx_nilK)|(apply OK_block)|(apply blockQ_n)|(apply blockQ_s)|(apply thenQ_e)|(apply blockQ_e;exact rfl)|(apply thenQ_r)|(apply blockQ_r)|(apply OK_condT;exact rfl)|(apply OK_condF;exact rfl)|(apply OK_skip)|(apply OK_exit)|(apply OK_ret)|(apply OKx_move;(conv=>lhs;whnf)<;>exact rfl)|(apply OKx_assign;(conv=>lhs;whnf)<;>exact rfl)|(apply OKx_lenS;exact rfl)|(apply OKx_lss;exact rfl;exact rfl;all_goals (intro _; try (exfalso;omega)))|(apply OKx_eql;exact rfl;exact rfl;all_goals (intro _; try (exfalso;omega)))|(apply OKx_neq;exact rfl;exact rfl;all_goals (intro _; try (exfalso;omega)))|(apply OKx_seql;exact rfl;exact rfl; all_goals intro _)|(apply OKx_idxS;exact rfl;exact rfl;omega)|(apply OKx_inc;exact rfl;exact rfl;omega)|(apply OKx_addN;exact rfl;exact rfl;omega)|(apply OKx_add;exact rfl;exact rfl;omega;omega)|(apply OKx_pickT;exact rfl;(conv=>lhs;whnf)<;>exact rfl)|(apply OKx_pickF;exact rfl;(conv=>lhs;whnf)<;>exact rfl)|(apply OKx_guardT;exact rfl;exact rfl)|(apply OKx_guardF;exact rfl;exact rfl)|(apply OKx_guardU;exact rfl;exact rfl))
        refine bodyQ_r1 (by ((conv=>lhs;whnf)<;>exact rfl)) ?_
        exact ⟨_, Ent.nil, rfl, rfl⟩
      · rw [decide_eq_false hbc]
        have hn2 : b.toNat ≠ c.toNat := fun e => hbc (UInt8.toNat_inj.1 e.symm)
        refine SatL.of 29 [4] Tryz.func120 (by kernel_rfl) (by kernel_rfl) rfl rfl rfl rfl ?_
        repeat' (first|(apply OK_seq)|(apply thenQ_n)|(apply OK_region)|(refine OKx_idxB7 (s := [b]) (i := 0) rfl rfl h0 ?_; rw [hg])|(apply OKx_gn; apply OKx_seql;exact rfl;exact rfl; all_goals (intro hs; first | (exfalso; exact hs63 hs) | skip))|(apply OKx_nilK)|(apply OK_block)|(apply blockQ_n)|(apply blockQ_s)|(apply thenQ_e)|(apply blockQ_e;exact rfl)|(apply thenQ_r)|(apply blockQ_r)|(apply OK_condT;exact rfl)|(apply OK_condF;exact rfl)|(apply OK_skip)|(apply OK_exit)|(apply OK_ret)|(apply OKx_move;(conv=>lhs;whnf)<;>exact rfl)|(apply OKx_assign;(conv=>lhs;whnf)<;>exact rfl)|(apply OKx_lenS;exact rfl)|(apply OKx_lss;exact rfl;exact rfl;all_goals (intro _; try (exfalso;omega)))|(apply OKx_eql;exact rfl;exact rfl;all_goals (intro _; try (exfalso;omega)))|(apply OKx_neq;exact rfl;exact rfl;all_goals (intro _; try (exfalso;omega)))|(apply OKx_seql;exact rfl;exact rfl; all_goals intro _)|(apply OKx_idxS;exact rfl;exact rfl;omega)|(apply OKx_inc;exact rfl;exact rfl;omega)|(apply OKx_addN;exact rfl;exact rfl;omega)|(apply OKx_add;exact rfl;exact rfl;omega;omega)|(apply OKx_pickT;exact rfl;(conv=>lhs;whnf)<;>exact rfl)|(apply OKx_pickF;exact rfl;(conv=>lhs;whnf)<;>exact rfl)|(apply OKx_guardT;exact rfl;exact rfl)|(apply OKx_guardF;exact rfl;exact rfl)|(apply OKx_guardU;exact rfl;exact rfl))
        refine bodyQ_r1 (by ((conv=>lhs;whnf)<;>exact rfl)) ?_
        exact ⟨_, Ent.nil, rfl, rfl⟩
end Go.Proofs.YthnlnffmmioapaaGreatDoor
