/-
  Assignments by their numbers, digit by digit: plain laws. No statement of the seat is proved here.
-/
import Derived.Test.YtmclgfipdgmomaaPl38
namespace Go.Proofs.Ytmclgfipdgmomaa

/-- The assignment with the number n, its digits known from node k on. -/
def dgk (vs st : List Int) (n k : Nat) : List Int := st.take k ++ dig vs (st.drop k) n
theorem dgk_len (vs st : List Int) (n k : Nat) (hk : k ≤ st.length) : (dgk vs st n k).length = st.length := by
  unfold dgk
  rw [List.length_append, dig_len, List.length_take, List.length_drop]
  omega
theorem dgk_all (vs st : List Int) (n : Nat) : dgk vs st n st.length = st := by
  unfold dgk
  rw [List.take_length, List.drop_length]
  simp [dig]
theorem dgk_zero (vs st : List Int) (n : Nat) : dgk vs st n 0 = dig vs st n := by
  unfold dgk
  simp
theorem dgk_step (vs st : List Int) (n k : Nat) (h : k < st.length) : dgk vs st n k = if st.getD k 0 < 0 then (dgk vs st n (k + 1)).set k (vs.getD ((n / vs.length ^ unk (st.drop (k + 1))) % vs.length) 0) else dgk vs st n (k + 1) := by
  have e : st.drop k = st.getD k 0 :: st.drop (k + 1) := by rw [getD_lt _ _ _ h]; exact List.drop_eq_getElem_cons h
  have e2 : st.take (k + 1) = st.take k ++ [st.getD k 0] := by rw [getD_lt _ _ _ h]; exact List.take_succ_eq_append_getElem h
  unfold dgk
  rw [e, e2, dig]
  have hl : (st.take k).length = k := by rw [List.length_take]; omega
  split
  · rw [List.append_assoc, List.set_append_right _ _ (by omega), hl, Nat.sub_self]
    rfl
  · rw [List.append_assoc]
    rfl
theorem unk_drop (st : List Int) (k : Nat) (h : k < st.length) : unk (st.drop k) = unk (st.drop (k + 1)) + if st.getD k 0 < 0 then 1 else 0 := by
  have e : st.drop k = st.getD k 0 :: st.drop (k + 1) := by rw [getD_lt _ _ _ h]; exact List.drop_eq_getElem_cons h
  rw [e, unk]
  omega
/-- What is left of the number n behind the digits from node k on. -/
def rst (vs st : List Int) (n k : Nat) : Nat := n / vs.length ^ unk (st.drop k)
theorem rst_all (vs st : List Int) (n : Nat) : rst vs st n st.length = n := by
  unfold rst
  rw [List.drop_length]
  simp [unk]
theorem rst_step (vs st : List Int) (n k : Nat) (h : k < st.length) : rst vs st n k = if st.getD k 0 < 0 then rst vs st n (k + 1) / vs.length else rst vs st n (k + 1) := by
  unfold rst
  rw [unk_drop st k h]
  split
  · rw [Nat.pow_succ, Nat.div_div_eq_div_mul]
  · simp
theorem rst_le (vs st : List Int) (n k : Nat) : rst vs st n k ≤ n := Nat.div_le_self _ _
theorem dgk_step' (vs st : List Int) (n k : Nat) (h : k < st.length) : dgk vs st n k = if st.getD k 0 < 0 then (dgk vs st n (k + 1)).set k (vs.getD (rst vs st n (k + 1) % vs.length) 0) else dgk vs st n (k + 1) := dgk_step vs st n k h

/-- The best one of the first n assignments. -/
def bstK (f : List Int → Nat) (vs st : List Int) (n : Nat) : List Int := (bestA f ((List.range n).map (dig vs st))).1
theorem bstK_zero (f : List Int → Nat) (vs st : List Int) : bstK f vs st 0 = [] := rfl
theorem bestA_cost (f : List Int → Nat) (l : List (List Int)) (h : l ≠ []) : (bestA f l).2 = (f (bestA f l).1 : Int) := (bestA_spec f l h).2.1
theorem bstK_step (f : List Int → Nat) (vs st : List Int) (n : Nat) : bstK f vs st (n + 1) = if n = 0 ∨ f (dig vs st n) < f (bstK f vs st n) then dig vs st n else bstK f vs st n := by
  unfold bstK
  rw [List.range_succ, List.map_append, List.map_cons, List.map_nil, bestA_snoc]
  unfold bstep
  by_cases h0 : n = 0
  · subst h0
    rw [if_pos (Or.inl (by rw [List.range_zero, List.map_nil, bestA_nil]; decide)), if_pos (Or.inl rfl)]
  · have hne : (List.range n).map (dig vs st) ≠ [] := by
      intro h
      have := congrArg List.length h
      simp at this
      exact h0 this
    have hc := bestA_cost f _ hne
    have hn := Int.natCast_nonneg (f (bestA f ((List.range n).map (dig vs st))).1)
    by_cases h : f (dig vs st n) < f (bestA f ((List.range n).map (dig vs st))).1
    · rw [if_pos (Or.inr (by omega)), if_pos (Or.inr h)]
    · rw [if_neg (by omega), if_neg (by omega)]
theorem bstK_len (f : List Int → Nat) (vs st : List Int) : ∀ n, 0 < n → (bstK f vs st n).length = st.length
  | 0, h => absurd h (by omega)
  | n + 1, _ => by
    rw [bstK_step]
    split
    · exact dig_len _ _ _
    · rename_i h
      exact bstK_len f vs st n (by omega)
theorem bstK_all (f : List Int → Nat) (st : List Int) : bstK f (occ st) st ((occ st).length ^ unk st) = (bestA f (asgs (occ st) st)).1 := by
  unfold bstK
  rw [asgs_dig _ (occ_pos st)]
theorem getD_mem {α : Type} (l : List α) (i : Nat) (d : α) (h : i < l.length) : l.getD i d ∈ l := by
  rw [getD_lt _ _ _ h]
  exact List.getElem_mem h
end Go.Proofs.Ytmclgfipdgmomaa
