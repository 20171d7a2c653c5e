/-
  Part 24 of the proof: Fs07, Ft07, Fu07. No statement of the seat is proved here.
-/
import Derived.Test.YthnlnffmmioapaaGreatDoorMHCl2723
namespace Go.Proofs.YthnlnffmmioapaaGreatDoor
open Go.RowKit
theorem strs_snoc8 (xs : List (List UInt8)) (x : List UInt8) : strs ((xs ++ [x]).map bOf) = strs (xs.map bOf) ++ [.string (bOf x)] := by simp [strs]
def rElsR (p : List UInt8) (u : Value) (L : List Res) : Prop := L = [.row 9 1 u (prts p).length (strs ((prts p).map bOf))]
set_option maxRecDepth 100000 in
set_option maxHeartbeats 4000000 in
theorem rEls_sat (p : List UInt8) (w : World) (hp : patE p = 0) : Sat Tryz.prog 103 [.string (bOf p)] w (rElsR p) := by
  have hz : (bOf p).size = p.length := bOf_size p
  obtain ⟨hl, he⟩ := patE_len hp
  refine SatL.of 24 [2] Tryz.func103 (by kernel_rfl) (by kernel_rfl) rfl rfl rfl rfl ?_
  repeat' (first|(apply OK_seq)|(apply thenQ_n)|(apply OK_region)|(apply OKx_nilK)|(apply OK_block)|(apply OKx_assign;(conv=>lhs;whnf)<;>exact rfl))
  refine OK_loop2 0 3 [0, 3, 4, 5, 6, 7, 8, 9, 10, 11, 12, 13, 14, 15, 16, 17, 18, 19, 20, 21, 22] (fun mm u0 u3 L => ∃ (k : Nat) (done : List (List UInt8)), k + mm = p.length ∧ inv p k done ∧ u0 = .string (bOf (p.drop k)) ∧ L = [.row 9 1 u3 done.length (strs (done.map bOf))]) p.length _ (Ent.mk fun w1 h1 => h1.nil _ _) ⟨0, [], by omega, inv_0 p, rfl, rfl⟩ ?_
  rintro mm u0 u3 L G ⟨k, done, hkm, hinv, rfl, rfl⟩
  have hzd : (bOf (p.drop k)).size = p.length - k := by rw [bOf_size, List.length_drop]
  by_cases hk : k < p.length
  · have hne : p.drop k ≠ [] := fun e => by
      have := congrArg List.length e
      rw [List.length_drop, List.length_nil] at this
      omega
    have hek : elErr (p.drop k) = 0 := by
      have h1 := hinv.2.2.1
      rw [he, errP_cons hne] at h1
      by_cases h2 : elErr (p.drop k) = 0
      · exact h2
      · rw [if_pos h2] at h1
        exact h1.symm
    have ce := fun w1 => elem7_sat (p.drop k) w1 hne (by rw [List.length_drop];omega)
    have hnx := inv_next hinv hk hek
    have h1 : elN (p.drop k) = elLen (p.drop k) := by unfold elN; rw [if_pos hek]
    have h2 := first_ok hne hek
    rw [List.length_drop] at h2
    have h3 := elLen_pos hne
    have hdl := hinv.2.2.2.2
    rw [hek, h1] at ce
    repeat' (first|(apply OK_seq)|(apply thenQ_n)|(apply OK_region)|(apply OKx_gc 119;exact rfl; refine OKx_callV (f := 119) rfl rfl rfl (fun w1 hp => ce w1) ?_)|(refine OKx_sslH7 (s := p.drop k) (h := elLen (p.drop k)) rfl rfl (by rw [List.length_drop];omega) rfl ?_)|(refine OKx_sslL7 (s := p.drop k) (l := elLen (p.drop k)) rfl rfl (by rw [List.length_drop];omega) (by rw [List.drop_drop]) ?_)|(apply OKx_gb; refine OKx_append1 1 0 rfl rfl rfl rfl rfl (by omega) (by omega) ?_; intro gr cr)|(apply OKx_nilK)|(apply OK_block)|(apply blockQ_n)|(apply OK_condT;exact rfl)|(apply OK_skip)|(apply OKx_move;(conv=>lhs;whnf)<;>exact rfl)|(apply OKx_assign;(conv=>lhs;whnf)<;>exact rfl)|(apply OKx_lenS;exact rfl)|(apply OKx_gtr;exact rfl;exact rfl;all_goals (intro _; try (exfalso;omega)))|(apply OKx_extract;exact rfl;(conv=>lhs;whnf)<;>exact rfl)|(apply OKx_slit1;(conv=>lhs;whnf)<;>exact rfl;exact rfl;intro _))
    refine ⟨by (repeat' (first | refine agree_upd rfl ?_ | exact agree_over | exact agree_refl _ _ | refine agree_over2 rfl ?_)), mm - elLen (p.drop k), _, by omega, Ent.pick [1] rfl, ?_⟩
    exact ⟨k + elLen (p.drop k), _, by omega, hnx.1, rfl, by rw [strs_snoc8, List.length_append] <;> rfl⟩
  · obtain rfl : k = p.length := by have := hinv.1;omega
    have hd : prts p = done := by
      have := hinv.2.1
      rw [List.drop_length, prts_nil, List.append_nil] at this
      exact this
    repeat' (first|(apply OK_seq)|(apply thenQ_n)|(apply OK_region)|(apply OKx_nilK)|(apply blockQ_s)|(apply thenQ_e)|(apply OK_condF;exact rfl)|(apply OK_exit)|(apply OK_ret)|(apply OKx_move;(conv=>lhs;whnf)<;>exact rfl)|(apply OKx_assign;(conv=>lhs;whnf)<;>exact rfl)|(apply OKx_lenS;exact rfl)|(apply OKx_gtr;exact rfl;exact rfl;all_goals (intro _; try (exfalso;omega))))
    refine bodyQ_r1 (by ((conv=>lhs;whnf)<;>exact rfl)) ?_
    exact ⟨_, Ent.refl _ _, by unfold rElsR; rw [hd]⟩
theorem part_91 {x : List UInt8} (hx : okPart x) (h : x.getD 0 0 = 91) : closeI x + 1 = x.length ∧ 2 ≤ closeI x ∧ (∀ c, elHas x c = true ↔ ∃ j, 1 ≤ j ∧ j < closeI x ∧ x.getD j 0 = c) ∧ elAny x = false := by
  obtain ⟨hne, he, hl⟩ := hx
  obtain ⟨c, r, rfl⟩ := head_ne hne
  obtain rfl : c = 91 := h
  have h1 := el_91 (r := r)
  have hc := closeI_le (91 :: r)
  rw [h1.2] at hl
  rw [he] at h1
  have h2 : ¬ (closeI (91 :: r) = (91 :: r).length ∨ closeI (91 :: r) < 2) := fun hh => by
    have := h1.1
    rw [if_pos hh] at this
    cases this
  refine ⟨hl, by omega, fun c => ?_, rfl⟩
  have e : elHas (91 :: r) c = (inner (91 :: r)).contains c := by
    unfold elHas
    dsimp only
    rw [if_neg (by decide), if_neg (by decide), if_pos rfl]
  rw [e, List.contains_iff_mem]
  unfold inner
  constructor
  · intro hm
    obtain ⟨i, hi, e⟩ := List.getElem_of_mem hm
    rw [List.length_drop, List.length_take] at hi
    refine ⟨1 + i, by omega, by omega, ?_⟩
    rw [List.getElem_drop, List.getElem_take] at e
    rw [getD_lt _ _ _ (by omega)]
    exact e
  · rintro ⟨j, hj1, hj2, rfl⟩
    refine List.mem_of_getElem? (i := j - 1) ?_
    rw [List.getElem?_drop, show 1 + (j - 1) = j by omega, List.getElem?_take_of_lt hj2, getD_lt _ _ _ (by omega)]
    exact List.getElem?_eq_getElem _
theorem part_one {x : List UInt8} (hx : okPart x) (h : x.getD 0 0 ≠ 91) : ∃ c, x = [c] ∧ c ≠ 91 ∧ c ≠ 93 := by
  obtain ⟨hne, he, hl⟩ := hx
  obtain ⟨c, r, rfl⟩ := head_ne hne
  have h' : c ≠ 91 := h
  have h93 : c ≠ 93 := fun e => by
    rw [e, el_93] at he
    cases he
  have hl' : elLen (c :: r) = 1 := by
    unfold elLen
    dsimp only
    rw [if_neg h']
  rw [hl', List.length_cons] at hl
  have hr : r = [] := List.length_eq_zero_iff.1 (by omega)
  exact ⟨c, by rw [hr], h', h93⟩
theorem has_one {c : UInt8} (h : c ≠ 91) (h2 : c ≠ 42) (b : UInt8) : elHas [c] b = (decide (c = 63) || decide (b = c)) := by
  unfold elHas
  dsimp only
  by_cases h3 : c = 63
  · rw [if_pos h3, decide_eq_true h3]; rfl
  · rw [if_neg h3, if_neg h2, if_neg h, decide_eq_false h3]; rfl
theorem bOf_inj8 {a b : List UInt8} (h : bOf a = bOf b) : a = b := by
  have h2 := congrArg (fun x : ByteArray => x.data.toList) h
  simpa [bOf] using h2
set_option maxRecDepth 100000 in
set_option maxHeartbeats 4000000 in
theorem stands_sat (x : List UInt8) (c : UInt8) (w : World) (hx : okPart x) (ha : elAny x = false) (hl : x.length ≤ 64) : SatV Tryz.prog 120 [.string (bOf x), .int .u8 (c.toNat : Int)] w (.bool (elHas x c)) := by
  have hz : (bOf x).size = x.length := bOf_size x
  have h0 : 0 < x.length := by
    cases x with
    | nil => exact absurd rfl hx.1
    | cons _ _ => rw [List.length_cons];omega
  by_cases h91 : x.getD 0 0 = 91
  · obtain ⟨h1, h2, h3, _⟩ := part_91 hx h91
    have hn : (x.getD 0 0).toNat = 91 := by rw [h91]; rfl
    refine SatL.of 29 [4] Tryz.func120 (by kernel_rfl) (by kernel_rfl) rfl rfl rfl rfl ?_
    repeat' (first|(apply OK_seq)|(apply thenQ_n)|(apply OK_region)|(refine OKx_idxB7 (s := x) (i := 0) rfl rfl h0 ?_)|(apply OKx_nilK)|(apply OK_block)|(apply OK_condF;exact rfl)|(apply OK_skip)|(apply OKx_move;(conv=>lhs;whnf)<;>exact rfl)|(apply OKx_assign;(conv=>lhs;whnf)<;>exact rfl)|(apply OKx_neq;exact rfl;exact rfl;all_goals (intro _; try (exfalso;omega))))
    refine OK_loop1 5 [4, 5, 17, 18, 19, 20, 21, 22, 23, 24, 25, 26, 27, 28] (fun mm u5 L => ∃ i : Nat, i + mm = closeI x ∧ 1 ≤ i ∧ (∀ j, 1 ≤ j → j < i → (x.getD j 0).toNat ≠ c.toNat) ∧ u5 = .int .i64 (i : Int) ∧ L = []) (closeI x - 1) _ (Ent.refl _ _) ⟨1, by omega, Nat.le_refl _, fun j h1 h2 => absurd h1 (by omega), rfl, rfl⟩ ?_
    rintro mm u5 L G ⟨i, him, hi1, hall, rfl, rfl⟩
    by_cases hi : i < closeI x
    · by_cases hc : (x.getD i 0).toNat = c.toNat
      · have ht : elHas x c = true := (h3 c).2 ⟨i, hi1, hi, UInt8.toNat_inj.1 hc⟩
        rw [ht]
        repeat' (first|(apply OK_seq)|(apply thenQ_n)|(apply OK_region)|(refine OKx_idxB7 (s := x) (i := i) rfl rfl (by omega) ?_)|(apply OKx_nilK)|(apply OK_block)|(apply thenQ_r)|(apply blockQ_r)|(apply OK_condT;exact rfl)|(apply OK_skip)|(apply OK_ret)|(apply OKx_move;(conv=>lhs;whnf)<;>exact rfl)|(apply OKx_assign;(conv=>lhs;whnf)<;>exact rfl)|(apply OKx_lenS;exact rfl)|(apply OKx_lss;exact rfl;exact rfl;all_goals (intro _; try (exfalso;omega)))|(apply OKx_eql;exact rfl;exact rfl;all_goals (intro _; try (exfalso;omega)))|(apply OKx_inc;exact rfl;exact rfl;omega))
        refine bodyQ_r1 (by ((conv=>lhs;whnf)<;>exact rfl)) ?_
        exact ⟨_, Ent.nil, rfl, rfl⟩
      · repeat' (first|(apply OK_seq)|(apply thenQ_n)|(apply OK_region)|(refine OKx_idxB7 (s := x) (i := i) rfl rfl (by omega) ?_)|(apply OKx_nilK)|(apply OK_block)|(apply blockQ_n)|(apply OK_condT;exact rfl)|(apply OK_condF;exact rfl)|(apply OK_skip)|(apply OKx_move;(conv=>lhs;whnf)<;>exact rfl)|(apply OKx_assign;(conv=>lhs;whnf)<;>exact rfl)|(apply OKx_lenS;exact rfl)|(apply OKx_lss;exact rfl;exact rfl;all_goals (intro _; try (exfalso;omega)))|(apply OKx_eql;exact rfl;exact rfl;all_goals (intro _; try (exfalso;omega)))|(apply OKx_inc;exact rfl;exact rfl;omega))
        refine ⟨by (repeat' (first | refine agree_upd rfl ?_ | exact agree_over | exact agree_refl _ _ | refine agree_over2 rfl ?_)), mm - 1, _, by omega, Ent.refl _ _, ?_⟩
        refine ⟨i + 1, by omega, by omega, fun j g1 g2 => ?_, rfl, rfl⟩
        by_cases hji : j < i
        · exact hall j g1 hji
        · obtain rfl : j = i := by omega
          exact hc
    · obtain rfl : i = closeI x := by omega
      have hf : elHas x c = false := by
        cases hh : elHas x c with
        | false => rfl
        | true =>
          obtain ⟨j, g1, g2, g3⟩ := (h3 c).1 hh
          exact absurd (by rw [g3]) (hall j g1 g2)
      rw [hf]
      repeat' (first|(apply OK_seq)|(apply thenQ_n)|(apply OK_region)|(apply OKx_nilK)|(apply blockQ_s)|(apply thenQ_e)|(apply OK_condF;exact rfl)|(apply OK_exit)|(apply OK_ret)|(apply OKx_move;(conv=>lhs;whnf)<;>exact rfl)|(apply OKx_assign;(conv=>lhs;whnf)<;>exact rfl)|(apply OKx_lenS;exact rfl)|(apply OKx_lss;exact rfl;exact rfl;all_goals (intro _; try (exfalso;omega)))|(apply OKx_inc;exact rfl;exact rfl;omega))
      refine bodyQ_r1 (by ((conv=>lhs;whnf)<;>exact rfl)) ?_
      exact ⟨_, Ent.nil, rfl, rfl⟩
  · obtain ⟨b, rfl, hb91, hb93⟩ := part_one hx h91
    have hb42 : b ≠ 42 := fun e => by
      subst e
      cases ha
    have hn : b.toNat ≠ 91 := fun e => hb91 (UInt8.toNat_inj.1 e)
    have hg : ([b] : List UInt8).getD 0 0 = b := rfl
    rw [has_one hb91 hb42]
    by_cases h63 : b = 63
    · subst h63
      refine SatL.of 29 [4] Tryz.func120 (by kernel_rfl) (by kernel_rfl) rfl rfl rfl rfl ?_
      repeat' (first|(apply OK_seq)|(apply thenQ_n)|(apply OK_region)|(refine OKx_idxB7 (s := [63]) (i := 0) rfl rfl h0 ?_; rw [hg])|(apply OKx_gn; apply OKx_seql;exact rfl;exact rfl; all_goals (intro hs; first | (exfalso; exact hs rfl) | skip))|(apply OKx_nilK)|(apply thenQ_r)|(apply OK_condT;exact rfl)|(apply OK_ret)|(apply OKx_move;(conv=>lhs;whnf)<;>exact rfl)|(apply OKx_assign;(conv=>lhs;whnf)<;>exact rfl)|(apply OKx_neq;exact rfl;exact rfl;all_goals (intro _; try (exfalso;omega)))|(apply OKx_pickT;exact rfl;(conv=>lhs;whnf)<;>exact rfl)|(apply OKx_guardF;exact rfl;exact rfl))
      refine bodyQ_r1 (by ((conv=>lhs;whnf)<;>exact rfl)) ?_
      exact ⟨_, Ent.nil, rfl, rfl⟩
    · rw [decide_eq_false h63, Bool.false_or]
      have hs63 : bOf [b] ≠ bOf [63] := fun e => by
        have := bOf_inj8 e
        cases this
        exact h63 rfl
      by_cases hbc : c = b
      · subst hbc
        rw [decide_eq_true rfl]
        refine SatL.of 29 [4] Tryz.func120 (by kernel_rfl) (by kernel_rfl) rfl rfl rfl rfl ?_
        repeat' (first|(apply OK_seq)|(apply thenQ_n)|(apply OK_region)|(refine OKx_idxB7 (s := [c]) (i := 0) rfl rfl h0 ?_; rw [hg])|(apply OKx_gn; apply OKx_seql;exact rfl;exact rfl; all_goals (intro hs; first | (exfalso; exact hs63 hs) | skip))|(apply OKx_nilK)|(apply thenQ_r)|(apply OK_condT;exact rfl)|(apply OK_ret)|(apply OKx_move;(conv=>lhs;whnf)<;>exact rfl)|(apply OKx_assign;(conv=>lhs;whnf)<;>exact rfl)|(apply OKx_eql;exact rfl;exact rfl;all_goals (intro _; try (exfalso;omega)))|(apply OKx_neq;exact rfl;exact rfl;all_goals (intro _; try (exfalso;omega)))|(apply OKx_pickF;exact rfl;(conv=>lhs;whnf)<;>exact rfl)|(apply OKx_guardT;exact rfl;exact rfl))
        refine bodyQ_r1 (by ((conv=>lhs;whnf)<;>exact rfl)) ?_
        exact ⟨_, Ent.nil, rfl, rfl⟩
      · rw [decide_eq_false hbc]
        have hn2 : b.toNat ≠ c.toNat := fun e => hbc (UInt8.toNat_inj.1 e.symm)
        refine SatL.of 29 [4] Tryz.func120 (by kernel_rfl) (by kernel_rfl) rfl rfl rfl rfl ?_
        repeat' (first|(apply OK_seq)|(apply thenQ_n)|(apply OK_region)|(refine OKx_idxB7 (s := [b]) (i := 0) rfl rfl h0 ?_; rw [hg])|(apply OKx_gn; apply OKx_seql;exact rfl;exact rfl; all_goals (intro hs; first | (exfalso; exact hs63 hs) | skip))|(apply OKx_nilK)|(apply thenQ_r)|(apply OK_condT;exact rfl)|(apply OK_ret)|(apply OKx_move;(conv=>lhs;whnf)<;>exact rfl)|(apply OKx_assign;(conv=>lhs;whnf)<;>exact rfl)|(apply OKx_eql;exact rfl;exact rfl;all_goals (intro _; try (exfalso;omega)))|(apply OKx_neq;exact rfl;exact rfl;all_goals (intro _; try (exfalso;omega)))|(apply OKx_pickF;exact rfl;(conv=>lhs;whnf)<;>exact rfl)|(apply OKx_guardT;exact rfl;exact rfl))
        refine bodyQ_r1 (by ((conv=>lhs;whnf)<;>exact rfl)) ?_
        exact ⟨_, Ent.nil, rfl, rfl⟩
end Go.Proofs.YthnlnffmmioapaaGreatDoor
namespace Go.Proofs.YthnlnffmmioapaaGreatDoor
open Go.RowKit
def rowB (f : Nat → Bool) (N : Nat) : List Bool := (List.range N).map f
theorem rowB_len (f : Nat → Bool) (N : Nat) : (rowB f N).length = N := by unfold rowB; rw [List.length_map, List.length_range]
theorem rowB_get (f : Nat → Bool) (N i : Nat) (h : i < N) : (rowB f N).getD i false = f i := by
  unfold rowB
  rw [List.getD_eq_getElem?_getD, List.getElem?_map, List.getElem?_range h]
  rfl
theorem rowB_congr {f g : Nat → Bool} {N : Nat} (h : ∀ j, j < N → f j = g j) : rowB f N = rowB g N :=
  List.map_congr_left fun j hj => h j (List.mem_range.1 hj)
theorem rowB_set (f g : Nat → Bool) (N i : Nat) (b : Bool) (h : ∀ j, j < N → g j = if j = i then b else f j) : (rowB f N).set i b = rowB g N := by
  refine List.ext_getElem (by rw [List.length_set, rowB_len, rowB_len]) fun j h1 h2 => ?_
  rw [rowB_len] at h2
  have e1 : (rowB g N)[j]'(by rw [rowB_len]; exact h2) = g j := by
    have := rowB_get g N j h2
    rwa [getD_lt _ _ _ (by rw [rowB_len]; exact h2)] at this
  have e2 : (rowB f N)[j]'(by rw [rowB_len]; exact h2) = f j := by
    have := rowB_get f N j h2
    rwa [getD_lt _ _ _ (by rw [rowB_len]; exact h2)] at this
  rw [List.getElem_set, e1, e2, h j h2]
  by_cases hij : i = j
  · rw [if_pos hij, if_pos hij.symm]
  · rw [if_neg hij, if_neg (fun e => hij e.symm)]
theorem rowB_rep (N : Nat) : List.replicate N (Value.bool false) = bools (rowB (fun _ => false) N) := by
  unfold bools rowB
  refine List.ext_getElem (by simp) fun j h1 h2 => ?_
  rw [List.getElem_replicate, List.getElem_map, List.getElem_map]
def dpB (xs : List (List UInt8)) (s : List UInt8) (k i : Nat) : Bool := mtB ((xs.take k).map elCor) (s.take i)
theorem dp_0 (xs : List (List UInt8)) (s : List UInt8) (i : Nat) (hi : i ≤ s.length) : dpB xs s 0 i = if i = 0 then true else false := by
  unfold dpB
  rw [Bool.eq_iff_iff, mtB_iff, List.take_zero, List.map_nil, Mt_nil, ← List.length_eq_zero_iff, List.length_take]
  by_cases h : i = 0
  · rw [if_pos h, h, Nat.zero_min]; exact ⟨fun _ => rfl, fun _ => rfl⟩
  · rw [if_neg h]
    constructor
    · intro hh;omega
    · intro hh; cases hh
theorem take_at (xs : List (List UInt8)) (k : Nat) (hk : k < xs.length) : (xs.take (k + 1)).map elCor = (xs.take k).map elCor ++ [elCor (xs.getD k [])] := by
  rw [List.take_add_one, List.getElem?_eq_getElem hk, getD_lt _ _ _ hk, List.map_append]
  rfl
theorem take_at8 (s : List UInt8) (i : Nat) (hi : i < s.length) : s.take (i + 1) = s.take i ++ [s.getD i 0] := by
  rw [List.take_add_one, List.getElem?_eq_getElem hi, getD_lt _ _ _ hi]
  rfl
theorem dp_star0 (xs : List (List UInt8)) (s : List UInt8) (k : Nat) (hk : k < xs.length) (h : elCor (xs.getD k []) = none) : dpB xs s (k + 1) 0 = dpB xs s k 0 := by
  unfold dpB
  rw [take_at xs k hk, h, Bool.eq_iff_iff, mtB_iff, mtB_iff, List.take_zero]
  exact Mt_snoc_star_nil _
theorem dp_star (xs : List (List UInt8)) (s : List UInt8) (k i : Nat) (hk : k < xs.length) (h : elCor (xs.getD k []) = none) (h0 : 0 < i) (hi : i ≤ s.length) : dpB xs s (k + 1) i = (dpB xs s k i || dpB xs s (k + 1) (i - 1)) := by
  obtain ⟨i, rfl⟩ : ∃ j, i = j + 1 := ⟨i - 1, by omega⟩
  rw [Nat.add_sub_cancel]
  unfold dpB
  rw [take_at xs k hk, h, take_at8 s i (by omega), Bool.eq_iff_iff, Bool.or_eq_true, mtB_iff, mtB_iff, mtB_iff, Or.comm]
  exact Mt_snoc_star _ _ _
theorem dp_set0 (xs : List (List UInt8)) (s : List UInt8) (k : Nat) (f : UInt8 → Bool) (hk : k < xs.length) (h : elCor (xs.getD k []) = some f) : dpB xs s (k + 1) 0 = false := by
  cases hh : dpB xs s (k + 1) 0 with
  | false => rfl
  | true =>
    unfold dpB at hh
    rw [take_at xs k hk, h, mtB_iff, List.take_zero] at hh
    exact absurd hh (Mt_snoc_set_nil _ _)
theorem dp_set (xs : List (List UInt8)) (s : List UInt8) (k i : Nat) (f : UInt8 → Bool) (hk : k < xs.length) (h : elCor (xs.getD k []) = some f) (h0 : 0 < i) (hi : i ≤ s.length) : dpB xs s (k + 1) i = (dpB xs s k (i - 1) && f (s.getD (i - 1) 0)) := by
  obtain ⟨i, rfl⟩ : ∃ j, i = j + 1 := ⟨i - 1, by omega⟩
  rw [Nat.add_sub_cancel]
  unfold dpB
  rw [take_at xs k hk, h, take_at8 s i (by omega), Bool.eq_iff_iff, Bool.and_eq_true, mtB_iff, mtB_iff, And.comm]
  exact Mt_snoc_set _ _ _ _
theorem dp_end (xs : List (List UInt8)) (s : List UInt8) : dpB xs s xs.length s.length = mtB (xs.map elCor) s := by
  unfold dpB
  rw [List.take_length, List.take_length]
def nxB (xs : List (List UInt8)) (s : List UInt8) (k i : Nat) (j : Nat) : Bool := if j < i then dpB xs s (k + 1) j else false
theorem nx_0 (xs : List (List UInt8)) (s : List UInt8) (k N : Nat) : rowB (fun _ => false) N = rowB (nxB xs s k 0) N := rowB_congr fun j _ => (if_neg (by omega)).symm
theorem nx_set (xs : List (List UInt8)) (s : List UInt8) (k i N : Nat) (b : Bool) (h : dpB xs s (k + 1) i = b) : (rowB (nxB xs s k i) N).set i b = rowB (nxB xs s k (i + 1)) N :=
  rowB_set _ _ _ _ _ fun j _ => by
    unfold nxB
    by_cases hj : j = i
    · rw [if_pos hj, if_pos (by omega), hj, h]
    · rw [if_neg hj]
      by_cases hji : j < i
      · rw [if_pos hji, if_pos (by omega)]
      · rw [if_neg hji, if_neg (by omega)]
theorem nx_get (xs : List (List UInt8)) (s : List UInt8) (k i N : Nat) (h0 : 0 < i) (hN : i ≤ N) : (rowB (nxB xs s k i) N).getD (i - 1) false = dpB xs s (k + 1) (i - 1) := by
  rw [rowB_get _ _ _ (by omega)]
  exact if_pos (by omega)
theorem nx_end (xs : List (List UInt8)) (s : List UInt8) (k N : Nat) : rowB (nxB xs s k N) N = rowB (dpB xs s (k + 1)) N := rowB_congr fun j hj => if_pos hj
theorem cor_star {x : List UInt8} (h : elCor x = none) (hx : okPart x) : x = [42] := by
  unfold elCor at h
  have ha : elAny x = true := by
    by_cases ha : elAny x = true
    · exact ha
    · rw [if_neg ha] at h; cases h
  obtain ⟨hne, he, hl⟩ := hx
  obtain ⟨c, r, rfl⟩ := head_ne hne
  have hc : c = 42 := of_decide_eq_true ha
  subst hc
  have hr : r = [] := List.length_eq_zero_iff.1 (by
    have : elLen (42 :: r) = 1 := rfl
    rw [this, List.length_cons] at hl
    omega)
  rw [hr]
theorem cor_set {x : List UInt8} {f : UInt8 → Bool} (h : elCor x = some f) : f = elHas x ∧ elAny x = false ∧ x ≠ [42] := by
  unfold elCor at h
  by_cases ha : elAny x = true
  · rw [if_pos ha] at h; cases h
  · rw [if_neg ha] at h
    cases h
    refine ⟨rfl, by simpa using ha, ?_⟩
    rintro rfl
    exact ha rfl
set_option maxRecDepth 100000 in
set_option maxHeartbeats 4000000 in
theorem rMatches_sat (v : Value) (xs : List (List UInt8)) (s : List UInt8) (w : World) (hv : Strs w v (xs.map bOf)) (hok : ∀ x ∈ xs, okPart x) (hxl : xs.length ≤ 64) (hx8 : ∀ x ∈ xs, x.length ≤ 64) (hs : s.length ≤ 64) :
    SatV Tryz.prog 102 [v, .string (bOf s)] w (.bool (mtB (xs.map elCor) s)) := by
  have hz : (bOf s).size = s.length := bOf_size s
  have hsl := hv.1
  rw [List.length_map] at hsl
  have e0 : (rowB (fun _ => false) (s.length + 1)).set 0 true = rowB (dpB xs s 0) (s.length + 1) := rowB_set _ _ _ _ _ fun j hj => dp_0 xs s j (by omega)
  refine SatL.of 83 [4] Tryz.func102 (by kernel_rfl) (by kernel_rfl) rfl rfl rfl rfl ?_
  repeat' (first|(apply OK_seq)|(apply thenQ_n)|(apply OK_region)|(refine OKx_make rfl rfl rfl (by omega) (by omega) ?_; intro ge; rw [rowB_rep, hz])|(apply OKx_gs; refine OKx_stBo (k := 0) 0 rfl rfl rfl (by omega) rfl ?_; rw [e0])|(apply OKx_nilK)|(apply OK_block)|(apply OKx_move;(conv=>lhs;whnf)<;>exact rfl)|(apply OKx_assign;(conv=>lhs;whnf)<;>exact rfl)|(apply OKx_lenS;exact rfl)|(apply OKx_idxOz;exact rfl;exact rfl;omega;omega)|(apply OKx_inc;exact rfl;exact rfl;omega))
  refine OK_loop2 5 6 [5, 6, 7, 8, 15, 16, 17, 18, 19, 20, 21, 22, 23, 24, 25, 26, 27, 28, 29, 30, 31, 32, 33, 34, 35, 36, 37, 38, 39, 40, 41, 42, 43, 44, 45, 46, 47, 48, 49, 50, 51, 52, 53, 54, 55, 56, 57, 58, 59, 60, 61, 62, 63, 64, 65, 66, 67, 68, 69, 70, 71, 72, 73, 74, 75, 76, 77] (fun mm u5 u6 L => ∃ (k g c : Nat), k + mm = xs.length ∧ u5 = .slice (some ⟨g, 0, none⟩) (s.length + 1) c ∧ u6 = .int .i64 (k : Int) ∧ L = [.row 4 1 (.slice (some ⟨g, 0, none⟩) (s.length + 1) c) (s.length + 1) (bools (rowB (dpB xs s k) (s.length + 1)))]) xs.length _ (Ent.refl _ _) ⟨0, _, _, by omega, rfl, rfl, rfl⟩ ?_
  rintro mm u5 u6 L G ⟨k, ge, ce, hkm, rfl, rfl, rfl⟩
  by_cases hk : k < xs.length
  · have hxk : xs.getD k [] ∈ xs := by rw [getD_lt _ _ _ hk]; exact List.getElem_mem hk
    have hget : (xs.map bOf).getD k ByteArray.empty = bOf (xs.getD k []) := by rw [getD_lt _ _ _ (by rw [List.length_map]; exact hk), List.getElem_map, getD_lt _ _ _ hk]
    have hokk := hok _ hxk
    have hlk := hx8 _ hxk
    repeat' (first|(apply OK_seq)|(apply thenQ_n)|(apply OK_region)|(refine OKx_make rfl rfl rfl (by omega) (by omega) ?_; intro gn; rw [rowB_rep, hz, nx_0 xs s k])|(apply OKx_nilK)|(apply OK_block)|(apply OK_condT;exact rfl)|(apply OK_skip)|(apply OKx_move;(conv=>lhs;whnf)<;>exact rfl)|(apply OKx_assign;(conv=>lhs;whnf)<;>exact rfl)|(apply OKx_lenR;(conv=>lhs;whnf)<;>exact rfl;(with_reducible assumption))|(apply OKx_lenS;exact rfl)|(apply OKx_lss;exact rfl;exact rfl;all_goals (intro _; try (exfalso;omega)))|(apply OKx_inc;exact rfl;exact rfl;omega))
    rename_i gn
    refine OK_loop1 8 [8, 25, 26, 27, 28, 29, 30, 31, 32, 33, 34, 35, 36, 37, 38, 39, 40, 41, 42, 43, 44, 45, 46, 47, 48, 49, 50, 51, 52, 53, 54, 55, 56, 57, 58, 59, 60, 61, 62, 63, 64, 65, 66, 67, 68, 69, 70, 71, 72, 73, 74, 75, 76] (fun mm2 u8 L => ∃ i : Nat, i + mm2 = s.length + 1 ∧ u8 = .int .i64 (i : Int) ∧ L = [.row 4 1 (.slice (some ⟨gn, 0, none⟩) (s.length + 1) (s.length + 1)) (s.length + 1) (bools (rowB (nxB xs s k i) (s.length + 1))), .row 4 1 (.slice (some ⟨ge, 0, none⟩) (s.length + 1) ce) (s.length + 1) (bools (rowB (dpB xs s k) (s.length + 1)))]) (s.length + 1) _ (Ent.refl _ _) ⟨0, by omega, rfl, rfl⟩ ?_
    rintro mm2 u8 L G2 ⟨i, him, rfl, rfl⟩
    by_cases hi : i < s.length + 1
    · have hg1 := rowB_get (dpB xs s k) (s.length + 1) i hi
      cases hcor : elCor (xs.getD k []) with
      | none =>
        have h42 : (xs.map bOf).getD k ByteArray.empty = ⟨#[42]⟩ := by rw [hget, cor_star hcor hokk]; rfl
        by_cases i0 : i = 0
        · subst i0
          have hst := dp_star0 xs s k hk hcor
          generalize dpB xs s k 0 = b1 at hg1 hst
          have hset := nx_set xs s k 0 (s.length + 1) b1 hst
          cases b1
          all_goals
            repeat' (first|(apply OK_seq)|(apply thenQ_n)|(apply OK_region)|(apply OKx_gn; apply OKx_seql;exact rfl;exact rfl; all_goals (intro hs9; first | (exfalso; exact hs9 h42) | skip))|(apply OKx_gl; refine OKx_ldBo (k := 0) 1 rfl rfl (by omega) ?_; rw [hg1])|(apply OKx_gs; refine OKx_stBo (k := 0) 0 rfl rfl rfl (by omega) rfl ?_; rw [List.set_cons_zero, hset])|(apply OKx_nilK)|(apply OK_block)|(apply blockQ_n)|(apply OK_condT;exact rfl)|(apply OK_skip)|(apply OKx_move;(conv=>lhs;whnf)<;>exact rfl)|(apply OKx_assign;(conv=>lhs;whnf)<;>exact rfl)|(apply OKx_ldR;(conv=>lhs;whnf)<;>exact rfl;(with_reducible assumption))|(apply OKx_lenS;exact rfl)|(apply OKx_leq;exact rfl;exact rfl;all_goals (intro _; try (exfalso;omega)))|(apply OKx_gtr;exact rfl;exact rfl;all_goals (intro _; try (exfalso;omega)))|(apply OKx_idxO;exact rfl;exact rfl;omega)|(apply OKx_idxR;(conv=>lhs;whnf)<;>exact rfl;(with_reducible assumption);exact rfl;omega;intro _ _)|(apply OKx_inc;exact rfl;exact rfl;omega)|(apply OKx_pickT;exact rfl;(conv=>lhs;whnf)<;>exact rfl)|(apply OKx_pickF;exact rfl;(conv=>lhs;whnf)<;>exact rfl)|(apply OKx_guardT;exact rfl;exact rfl)|(apply OKx_guardF;exact rfl;exact rfl)|(apply OKx_guardU;exact rfl;exact rfl))
            refine ⟨by (repeat' (first | refine agree_upd rfl ?_ | exact agree_over | exact agree_refl _ _ | refine agree_over2 rfl ?_)), mm2 - 1, _, by omega, Ent.refl _ _, ?_⟩
            exact ⟨1, by omega, rfl, rfl⟩
        · have hst := dp_star xs s k i hk hcor (by omega) (by omega)
          have hg2 := nx_get xs s k i (s.length + 1) (by omega) (by omega)
          generalize dpB xs s k i = b1 at hg1 hst
          generalize dpB xs s (k + 1) (i - 1) = b2 at hg2 hst
          have hset := nx_set xs s k i (s.length + 1) _ hst
          cases b1 <;> cases b2
          all_goals
            repeat' (first|(apply OK_seq)|(apply thenQ_n)|(apply OK_region)|(apply OKx_gn; apply OKx_seql;exact rfl;exact rfl; all_goals (intro hs9; first | (exfalso; exact hs9 h42) | skip))|(apply OKx_gl; refine OKx_ldBo (k := i) 1 rfl rfl (by omega) ?_; rw [hg1])|(apply OKx_gl; refine OKx_ldBo (k := i - 1) 0 rfl rfl (by omega) ?_; rw [hg2])|(apply OKx_gs; refine OKx_stBo (k := i) 0 rfl rfl rfl (by omega) rfl ?_; rw [List.set_cons_zero]; erw [hset])|(apply OKx_nilK)|(apply OK_block)|(apply blockQ_n)|(apply OK_condT;exact rfl)|(apply OK_skip)|(apply OKx_move;(conv=>lhs;whnf)<;>exact rfl)|(apply OKx_assign;(conv=>lhs;whnf)<;>exact rfl)|(apply OKx_ldR;(conv=>lhs;whnf)<;>exact rfl;(with_reducible assumption))|(apply OKx_lenS;exact rfl)|(apply OKx_leq;exact rfl;exact rfl;all_goals (intro _; try (exfalso;omega)))|(apply OKx_gtr;exact rfl;exact rfl;all_goals (intro _; try (exfalso;omega)))|(apply OKx_idxO;exact rfl;exact rfl;omega)|(apply OKx_idxR;(conv=>lhs;whnf)<;>exact rfl;(with_reducible assumption);exact rfl;omega;intro _ _)|(apply OKx_inc;exact rfl;exact rfl;omega)|(apply OKx_dec;exact rfl;exact rfl;omega;omega)|(apply OKx_pickT;exact rfl;(conv=>lhs;whnf)<;>exact rfl)|(apply OKx_pickF;exact rfl;(conv=>lhs;whnf)<;>exact rfl)|(apply OKx_guardT;exact rfl;exact rfl)|(apply OKx_guardF;exact rfl;exact rfl)|(apply OKx_guardU;exact rfl;exact rfl))
            refine ⟨by (repeat' (first | refine agree_upd rfl ?_ | exact agree_over | exact agree_refl _ _ | refine agree_over2 rfl ?_)), mm2 - 1, _, by omega, Ent.refl _ _, ?_⟩
            exact ⟨i + 1, by omega, rfl, rfl⟩
      | some f =>
        obtain ⟨hf, hany, hx42⟩ := cor_set hcor
        have hn42 : (xs.map bOf).getD k ByteArray.empty ≠ ⟨#[42]⟩ := by
          rw [hget]
          intro e
          exact hx42 (bOf_inj8 e)
        by_cases i0 : i = 0
        · subst i0
          have hset := nx_set xs s k 0 (s.length + 1) _ (dp_set0 xs s k f hk hcor)
          repeat' (first|(apply OK_seq)|(apply thenQ_n)|(apply OK_region)|(apply OKx_gn; apply OKx_seql;exact rfl;exact rfl; all_goals (intro hs9; first | (exfalso; exact hn42 hs9) | skip))|(apply OKx_gs; refine OKx_stBo (k := 0) 0 rfl rfl rfl (by omega) rfl ?_; rw [List.set_cons_zero, hset])|(refine OK_rid 12 ?_; refine OK_mix [0, 1] [2, 3, 4, 5, 6, 7, 8, 9, 10, 11, 12, 13, 14, 15, 16, 17, 18, 19] [] [20, 21, 22, 23] [] (id := 12) (by kernel_rfl) (by kernel_rfl) rfl (Ent.nil) (by ((try simp only [pickO, nthO, List.cons_append, List.nil_append]) <;> exact rfl)) (by ((try simp only [pickO, nthO, List.cons_append, List.nil_append]) <;> exact rfl)) (by ((try simp only [pickO]) <;> exact rfl)) (by ((try simp only [pickO, nthO, List.cons_append, List.nil_append]) <;> exact rfl)) ?_)|(apply OKx_nilK)|(apply OK_block)|(apply blockQ_n)|(apply OK_condT;exact rfl)|(apply OK_condF;exact rfl)|(apply OK_skip)|(apply OKx_move;(conv=>lhs;whnf)<;>exact rfl)|(apply OKx_assign;(conv=>lhs;whnf)<;>exact rfl)|(apply OKx_ldR;(conv=>lhs;whnf)<;>exact rfl;(with_reducible assumption))|(apply OKx_lenS;exact rfl)|(apply OKx_leq;exact rfl;exact rfl;all_goals (intro _; try (exfalso;omega)))|(apply OKx_gtr;exact rfl;exact rfl;all_goals (intro _; try (exfalso;omega)))|(apply OKx_idxO;exact rfl;exact rfl;omega)|(apply OKx_idxR;(conv=>lhs;whnf)<;>exact rfl;(with_reducible assumption);exact rfl;omega;intro _ _)|(apply OKx_inc;exact rfl;exact rfl;omega)|(apply OKx_pickF;exact rfl;(conv=>lhs;whnf)<;>exact rfl)|(apply OKx_guardF;exact rfl;exact rfl))
          refine ⟨by (repeat' (first | refine agree_upd rfl ?_ | exact agree_over | exact agree_refl _ _ | refine agree_over2 rfl ?_)), mm2 - 1, _, by omega, Ent.refl _ _, ?_⟩
          exact ⟨1, by omega, rfl, rfl⟩
        · have hst := dp_set xs s k i f hk hcor (by omega) (by omega)
          have hg2 := rowB_get (dpB xs s k) (s.length + 1) (i - 1) (by omega)
          have cst := fun w1 => stands_sat (xs.getD k []) (s.getD (i - 1) 0) w1 hokk hany hlk
          rw [← hget, ← hf] at cst
          generalize dpB xs s k (i - 1) = b1 at hg2 hst
          generalize f (s.getD (i - 1) 0) = b2 at cst hst
          have hset := nx_set xs s k i (s.length + 1) _ hst
          cases b1 <;> cases b2
          all_goals
            repeat' (first|(apply OK_seq)|(apply thenQ_n)|(apply OK_region)|(apply OKx_gn; apply OKx_seql;exact rfl;exact rfl; all_goals (intro hs9; first | (exfalso; exact hn42 hs9) | skip))|(apply OKx_gl; refine OKx_ldBo (k := i - 1) 1 rfl rfl (by omega) ?_; rw [hg2])|(refine OKx_idxB7 (s := s) (i := i - 1) rfl rfl (by omega) ?_)|(apply OKx_gc 120;exact rfl; refine OKx_callV (f := 120) rfl rfl rfl (fun w1 hp => cst w1) ?_)|(apply OKx_gs; refine OKx_stBo (k := i) 0 rfl rfl rfl (by omega) rfl ?_; rw [List.set_cons_zero]; erw [hset])|(refine OK_rid 12 ?_; refine OK_mix [0, 1] [2, 3, 4, 5, 6, 7, 8, 9, 10, 11, 12, 13, 14, 15, 16, 17, 18, 19] [] [20, 21, 22, 23] [] (id := 12) (by kernel_rfl) (by kernel_rfl) rfl (Ent.nil) (by ((try simp only [pickO, nthO, List.cons_append, List.nil_append]) <;> exact rfl)) (by ((try simp only [pickO, nthO, List.cons_append, List.nil_append]) <;> exact rfl)) (by ((try simp only [pickO]) <;> exact rfl)) (by ((try simp only [pickO, nthO, List.cons_append, List.nil_append]) <;> exact rfl)) ?_)|(apply OKx_nilK)|(apply OK_block)|(apply blockQ_n)|(apply OK_condT;exact rfl)|(apply OK_condF;exact rfl)|(apply OK_skip)|(apply OKx_move;(conv=>lhs;whnf)<;>exact rfl)|(apply OKx_assign;(conv=>lhs;whnf)<;>exact rfl)|(apply OKx_ldR;(conv=>lhs;whnf)<;>exact rfl;(with_reducible assumption))|(apply OKx_lenS;exact rfl)|(apply OKx_leq;exact rfl;exact rfl;all_goals (intro _; try (exfalso;omega)))|(apply OKx_gtr;exact rfl;exact rfl;all_goals (intro _; try (exfalso;omega)))|(apply OKx_idxO;exact rfl;exact rfl;omega)|(apply OKx_idxR;(conv=>lhs;whnf)<;>exact rfl;(with_reducible assumption);exact rfl;omega;intro _ _)|(apply OKx_inc;exact rfl;exact rfl;omega)|(apply OKx_dec;exact rfl;exact rfl;omega;omega)|(apply OKx_pickT;exact rfl;(conv=>lhs;whnf)<;>exact rfl)|(apply OKx_pickF;exact rfl;(conv=>lhs;whnf)<;>exact rfl)|(apply OKx_guardT;exact rfl;exact rfl)|(apply OKx_guardF;exact rfl;exact rfl))
            refine ⟨by (repeat' (first | refine agree_upd rfl ?_ | exact agree_over | exact agree_refl _ _ | refine agree_over2 rfl ?_)), mm2 - 1, _, by omega, Ent.refl _ _, ?_⟩
            exact ⟨i + 1, by omega, rfl, rfl⟩
    · obtain rfl : i = s.length + 1 := by omega
      rw [nx_end]
      repeat' (first|(apply OK_seq)|(apply thenQ_n)|(apply OK_region)|(apply OKx_nilK)|(apply blockQ_n)|(apply blockQ_s)|(apply thenQ_e)|(apply OK_condF;exact rfl)|(apply OK_exit)|(apply OKx_move;(conv=>lhs;whnf)<;>exact rfl)|(apply OKx_assign;(conv=>lhs;whnf)<;>exact rfl)|(apply OKx_lenS;exact rfl)|(apply OKx_leq;exact rfl;exact rfl;all_goals (intro _; try (exfalso;omega)))|(apply OKx_inc;exact rfl;exact rfl;omega))
      refine ⟨by (repeat' (first | refine agree_upd rfl ?_ | exact agree_over | exact agree_refl _ _ | refine agree_over2 rfl ?_)), mm - 1, _, by omega, Ent.pick [0] rfl, ?_⟩
      exact ⟨k + 1, gn, s.length + 1, by omega, rfl, rfl, rfl⟩
  · obtain rfl : k = xs.length := by omega
    have hg := rowB_get (dpB xs s xs.length) (s.length + 1) s.length (by omega)
    rw [dp_end] at hg
    repeat' (first|(apply OK_seq)|(apply thenQ_n)|(apply OK_region)|(apply OKx_gl; refine OKx_ldBo (k := s.length) 0 rfl rfl (by omega) ?_; rw [hg])|(apply OKx_nilK)|(apply blockQ_s)|(apply thenQ_e)|(apply OK_condF;exact rfl)|(apply OK_exit)|(apply OK_ret)|(apply OKx_move;(conv=>lhs;whnf)<;>exact rfl)|(apply OKx_assign;(conv=>lhs;whnf)<;>exact rfl)|(apply OKx_lenR;(conv=>lhs;whnf)<;>exact rfl;(with_reducible assumption))|(apply OKx_lenS;exact rfl)|(apply OKx_lss;exact rfl;exact rfl;all_goals (intro _; try (exfalso;omega)))|(apply OKx_idxO;exact rfl;exact rfl;omega))
    refine bodyQ_r1 (by ((conv=>lhs;whnf)<;>exact rfl)) ?_
    exact ⟨_, Ent.nil, rfl, rfl⟩
end Go.Proofs.YthnlnffmmioapaaGreatDoor
namespace Go.Proofs.YthnlnffmmioapaaGreatDoor
open Go.RowKit
theorem sub_flat {xs : List (List UInt8)} {x : List UInt8} (h : x ∈ xs) : x.length ≤ xs.flatten.length := by
  induction xs with
  | nil => cases h
  | cons y xs ih =>
    rw [List.flatten_cons, List.length_append]
    rcases List.mem_cons.1 h with rfl | h
    · omega
    · have := ih h
      omega
theorem pts {p : List UInt8} (hp : patE p = 0) : (∀ x ∈ prts p, okPart x) ∧ (∀ x ∈ prts p, x.length ≤ 64) ∧ (prts p).length ≤ 64 ∧ p.length ≤ 64 := by
  obtain ⟨hl, he⟩ := patE_len hp
  have h := prts_ok _ p (Nat.le_refl _) he
  have h2 := prts_len p
  refine ⟨h.1, fun x hx => ?_, by omega, hl⟩
  have := sub_flat hx
  rw [h.2] at this
  omega
theorem els_size {p : List UInt8} (hp : patE p = 0) : ∀ s ∈ (prts p).map bOf, s.size ≤ 140737488355328 := fun s hs => by
  obtain ⟨x, hx, rfl⟩ := List.mem_map.1 hs
  have := (pts hp).2.1 x hx
  rw [bOf_size]
  omega
theorem Hp.els {B : Nat} {w0 w : World} {L : List Res} (h : Hp B w0 w L) (i : Nat) {v : Value} {p : List UInt8} (hi : L[i]? = some (.row 9 1 v (prts p).length (Go.Proofs.YthnlnffmmioapaaGreatDoor.strs ((prts p).map bOf)))) (hp : patE p = 0) : Strs w v ((prts p).map bOf) :=
  h.strs i hi (by have := (pts hp).2.2.1;omega) (els_size hp)
theorem mtc_ok7 {p s : List UInt8} (hp : patE p = 0) (hs : chkS s = 0) : mtcB p s = mtB (pat p) s ∧ mtcE p s = 0 := by
  have h : mtcE p s = 0 := by
    unfold mtcE
    rw [if_neg (by rw [hp]; decide), hs]
  unfold mtcB
  rw [h]
  exact ⟨rfl, rfl⟩
set_option maxRecDepth 100000 in
set_option maxHeartbeats 4000000 in
theorem rMatch_sat (p s : List UInt8) (w : World) (hp : p.length ≤ 140737488355328) (hs : s.length ≤ 140737488355328) : SatV Tryz.prog 83 [.string (bOf p), .string (bOf s)] w (.tuple #[.bool (mtcB p s), .int .i64 (mtcE p s)]) := by
  have c1 := fun w1 => rCheck_sat p w1 hp
  have c2 := fun w1 => rcheckW_sat s w1 hs
  have hb := patE_bd p
  by_cases h : patE p = 0
  rotate_left
  · have e1 : mtcE p s = 1 := if_pos h
    have e2 : mtcB p s = false := by unfold mtcB; rw [e1]; rfl
    rw [e1, e2]
    refine SatL.of 19 [4, 5] Tryz.func83 (by kernel_rfl) (by kernel_rfl) rfl rfl rfl rfl ?_
    repeat' (first|(apply OK_seq)|(apply thenQ_n)|(apply OK_region)|(apply OKx_gc 100;exact rfl; refine OKx_callV (f := 100) rfl rfl rfl (fun w1 hp => c1 w1) ?_)|(apply OKx_nilK)|(apply thenQ_r)|(apply OK_condT;exact rfl)|(apply OK_ret)|(apply OKx_move;(conv=>lhs;whnf)<;>exact rfl)|(apply OKx_assign;(conv=>lhs;whnf)<;>exact rfl)|(apply OKx_neq;exact rfl;exact rfl;all_goals (intro _; try (exfalso;omega))))
    refine bodyQ_r2 (by ((conv=>lhs;whnf)<;>exact rfl)) (by ((conv=>lhs;whnf)<;>exact rfl)) ?_
    exact ⟨_, Ent.nil, rfl, rfl⟩
  obtain ⟨q1, q2, q3, q4⟩ := pts h
  by_cases hc : chkS s = 0
  rotate_left
  · have e1 : mtcE p s = chkS s := if_neg (fun hh => hh h)
    have e2 : mtcB p s = false := by unfold mtcB; rw [e1, if_pos hc]
    rw [e1, e2]
    have hcb := chkS_bd s
    generalize chkS s = e at *
    refine SatL.of 19 [4, 5] Tryz.func83 (by kernel_rfl) (by kernel_rfl) rfl rfl rfl rfl ?_
    repeat' (first|(apply OK_seq)|(apply thenQ_n)|(apply OK_region)|(apply OKx_gc 100;exact rfl; refine OKx_callV (f := 100) rfl rfl rfl (fun w1 hp => c1 w1) ?_)|(apply OKx_gc 101;exact rfl; refine OKx_callV (f := 101) rfl rfl rfl (fun w1 hp => c2 w1) ?_)|(apply OKx_nilK)|(apply thenQ_r)|(apply OK_condT;exact rfl)|(apply OK_condF;exact rfl)|(apply OK_skip)|(apply OK_ret)|(apply OKx_move;(conv=>lhs;whnf)<;>exact rfl)|(apply OKx_assign;(conv=>lhs;whnf)<;>exact rfl)|(apply OKx_neq;exact rfl;exact rfl;all_goals (intro _; try (exfalso;omega))))
    refine bodyQ_r2 (by ((conv=>lhs;whnf)<;>exact rfl)) (by ((conv=>lhs;whnf)<;>exact rfl)) ?_
    exact ⟨_, Ent.nil, rfl, rfl⟩
  · obtain ⟨e2, e1⟩ := mtc_ok7 h hc
    have hs64 : s.length ≤ 64 := by
      refine Decidable.byContradiction fun hh => ?_
      unfold chkS at hc
      rw [if_pos (by omega)] at hc
      cases hc
    rw [e1, e2]
    rw [hc] at c2
    refine SatL.of 19 [4, 5] Tryz.func83 (by kernel_rfl) (by kernel_rfl) rfl rfl rfl rfl ?_
    repeat' (first|(apply OK_seq)|(apply thenQ_n)|(apply OK_region)|(apply OKx_gc 100;exact rfl; refine OKx_callV (f := 100) rfl rfl rfl (fun w1 hp => c1 w1) ?_)|(apply OKx_gc 101;exact rfl; refine OKx_callV (f := 101) rfl rfl rfl (fun w1 hp => c2 w1) ?_)|(apply OKx_gc 103;exact rfl; refine OKx_call (f := 103) rfl rfl (fun w1 hp => rEls_sat p w1 h) ?_; intro v L9 hL9; obtain rfl := hL9; rw [List.append_nil])|(apply OKx_gc 102;exact rfl; refine OKx_callV (f := 102) rfl rfl rfl (fun w1 hp => rMatches_sat _ (prts p) s w1 (hp.els 0 rfl h) q1 q3 q2 hs64) ?_)|(apply OKx_nilK)|(apply OK_condF;exact rfl)|(apply OK_skip)|(apply OK_ret)|(apply OKx_move;(conv=>lhs;whnf)<;>exact rfl)|(apply OKx_assign;(conv=>lhs;whnf)<;>exact rfl)|(apply OKx_neq;exact rfl;exact rfl;all_goals (intro _; try (exfalso;omega))))
    refine bodyQ_r2 (by ((conv=>lhs;whnf)<;>exact rfl)) (by ((conv=>lhs;whnf)<;>exact rfl)) ?_
    exact ⟨_, Ent.nil, rfl, rfl⟩
end Go.Proofs.YthnlnffmmioapaaGreatDoor
