/-
  Assignments of states and their costs: plain laws. No statement of the seat is proved here.
-/
import Derived.Test.YtmclgfipdgmomaaSrt
namespace Go.Proofs.Ytmclgfipdgmomaa

/-- The states that occur, ascending; 0 if there are none. -/
def occ (st : List Int) : List Int := if srtK st 16 = [] then [0] else srtK st 16
theorem occ_ne (st : List Int) : occ st ≠ [] := by
  unfold occ
  split
  · simp
  · assumption
theorem occ_pos (st : List Int) : 0 < (occ st).length := List.length_pos_iff.2 (occ_ne st)
theorem occ_le (st : List Int) : (occ st).length ≤ 16 := by
  unfold occ
  split
  · simp
  · exact srtK_len _ _
theorem occ_range (st : List Int) : ∀ x ∈ occ st, 0 ≤ x ∧ x < 16 := by
  intro x hx
  unfold occ at hx
  split at hx
  · simp at hx; omega
  · have := (srtK_mem _ _ _).1 hx
    omega
/-- How many are unknown. -/
def unk : List Int → Nat
  | [] => 0
  | x :: st => (if x < 0 then 1 else 0) + unk st
def many (st : List Int) : Bool := decide (65536 < (occ st).length ^ unk st)
/-- All assignments, in lexicographical order. -/
def asgs (vs : List Int) : List Int → List (List Int)
  | [] => [[]]
  | x :: st => if x < 0 then vs.flatMap (fun v => (asgs vs st).map (v :: ·)) else (asgs vs st).map (x :: ·)
theorem flat_len {α β : Type} (f : α → List β) (c : Nat) : ∀ l : List α, (∀ x ∈ l, (f x).length = c) → (l.flatMap f).length = l.length * c
  | [], _ => by simp
  | x :: l, h => by rw [List.flatMap_cons, List.length_append, h x (by simp), flat_len f c l (fun y hy => h y (by simp [hy])), List.length_cons, Nat.succ_mul]; omega
theorem flat_congr {α β : Type} (f g : α → List β) : ∀ l : List α, (∀ x ∈ l, f x = g x) → l.flatMap f = l.flatMap g
  | [], _ => rfl
  | x :: l, h => by rw [List.flatMap_cons, List.flatMap_cons, h x (by simp), flat_congr f g l (fun y hy => h y (by simp [hy]))]
theorem asgs_len (vs st : List Int) : (asgs vs st).length = vs.length ^ unk st := by
  induction st with
  | nil => rfl
  | cons x st ih =>
    unfold asgs unk
    split
    · rw [flat_len _ (vs.length ^ unk st) vs (fun v _ => by rw [List.length_map, ih]), Nat.pow_add, Nat.pow_one]
    · simp [ih]
theorem asgs_mem (vs : List Int) : ∀ (st a : List Int), a ∈ asgs vs st ↔ a.length = st.length ∧ ∀ i, i < st.length → if st.getD i 0 < 0 then a.getD i 0 ∈ vs else a.getD i 0 = st.getD i 0 := by
  intro st
  induction st with
  | nil =>
    intro a
    unfold asgs
    simp only [List.mem_singleton, List.length_nil]
    constructor
    · rintro rfl; exact ⟨rfl, fun i hi => absurd hi (by omega)⟩
    · rintro ⟨h, _⟩; exact List.eq_nil_of_length_eq_zero h
  | cons x st ih =>
    intro a
    have key : ∀ (v : Int) (b : List Int), ((v :: b).length = (x :: st).length ∧ ∀ i, i < (x :: st).length → if (x :: st).getD i 0 < 0 then (v :: b).getD i 0 ∈ vs else (v :: b).getD i 0 = (x :: st).getD i 0) ↔
        (if x < 0 then v ∈ vs else v = x) ∧ b ∈ asgs vs st := by
      intro v b
      rw [ih b]
      constructor
      · rintro ⟨h1, h2⟩
        refine ⟨by have := h2 0 (by simp); simpa using this, by simpa using h1, fun i hi => ?_⟩
        have := h2 (i + 1) (by simp; omega)
        simpa using this
      · rintro ⟨h1, h2, h3⟩
        refine ⟨by simp [h2], fun i hi => ?_⟩
        cases i with
        | zero => simpa using h1
        | succ i =>
          have := h3 i (by simpa using hi)
          simpa using this
    unfold asgs
    split
    · rename_i hx
      simp only [List.mem_flatMap, List.mem_map]
      constructor
      · rintro ⟨v, hv, b, hb, rfl⟩
        exact (key v b).2 ⟨by rw [if_pos hx]; exact hv, hb⟩
      · intro h
        cases a with
        | nil => simp at h
        | cons v b =>
          have := (key v b).1 h
          rw [if_pos hx] at this
          exact ⟨v, this.1, b, this.2, rfl⟩
    · rename_i hx
      simp only [List.mem_map]
      constructor
      · rintro ⟨b, hb, rfl⟩
        exact (key x b).2 ⟨by rw [if_neg hx], hb⟩
      · intro h
        cases a with
        | nil => simp at h
        | cons v b =>
          have := (key v b).1 h
          rw [if_neg hx] at this
          exact ⟨b, this.2, by rw [this.1]⟩
theorem asgs_known (vs : List Int) : ∀ st : List Int, (∀ x ∈ st, 0 ≤ x) → asgs vs st = [st] := by
  intro st
  induction st with
  | nil => intro _; rfl
  | cons x st ih =>
    intro h
    unfold asgs
    rw [if_neg (by have := h x (by simp); omega), ih (fun y hy => h y (by simp [hy]))]
    rfl

/-- The assignment whose number has these digits. -/
def dig (vs : List Int) : List Int → Nat → List Int
  | [], _ => []
  | x :: st, n => (if x < 0 then vs.getD ((n / vs.length ^ unk st) % vs.length) 0 else x) :: dig vs st n
theorem dig_len (vs : List Int) : ∀ (st : List Int) (n : Nat), (dig vs st n).length = st.length := by
  intro st
  induction st with
  | nil => intro n; rfl
  | cons x st ih => intro n; simp [dig, ih]
theorem dig_add (vs : List Int) (hv : 0 < vs.length) : ∀ (st : List Int) (q r : Nat), dig vs st (q * vs.length ^ unk st + r) = dig vs st r := by
  intro st
  induction st with
  | nil => intro q r; rfl
  | cons x st ih =>
    intro q r
    have hK : 0 < vs.length ^ unk st := Nat.pow_pos hv
    unfold dig
    by_cases hx : x < 0
    · have hu : unk (x :: st) = unk st + 1 := by simp [unk, hx]; omega
      rw [hu, if_pos hx, if_pos hx, Nat.pow_succ]
      have e1 : q * (vs.length ^ unk st * vs.length) + r = r + vs.length ^ unk st * (q * vs.length) := by
        rw [Nat.add_comm, ← Nat.mul_assoc, Nat.mul_comm q, Nat.mul_assoc]
      have e2 : (q * (vs.length ^ unk st * vs.length) + r) / vs.length ^ unk st = r / vs.length ^ unk st + q * vs.length := by
        rw [e1, Nat.add_mul_div_left _ _ hK]
      rw [e2, Nat.add_mul_mod_self_right]
      congr 1
      have := ih (q * vs.length) r
      rw [← this]
      congr 1
      rw [Nat.mul_assoc, Nat.mul_comm vs.length]
    · have hu : unk (x :: st) = unk st := by simp [unk, hx]
      rw [hu, if_neg hx, if_neg hx, ih]
theorem range_mul (k K : Nat) : List.range (k * K) = (List.range k).flatMap (fun q => (List.range K).map (fun r => q * K + r)) := by
  induction k with
  | zero => simp
  | succ k ih =>
    rw [List.range_succ, List.flatMap_append, ← ih, Nat.succ_mul, List.range_add]
    simp
theorem asgs_dig (vs : List Int) (hv : 0 < vs.length) : ∀ st : List Int, asgs vs st = (List.range (vs.length ^ unk st)).map (dig vs st) := by
  intro st
  induction st with
  | nil => simp [asgs, unk, dig]
  | cons x st ih =>
    have hK : 0 < vs.length ^ unk st := Nat.pow_pos hv
    unfold asgs
    by_cases hx : x < 0
    · have hu : unk (x :: st) = unk st + 1 := by simp [unk, hx]; omega
      rw [if_pos hx, hu, Nat.pow_succ, Nat.mul_comm, range_mul, List.map_flatMap, ih]
      have : vs = (List.range vs.length).map (fun q => vs.getD q 0) := by
        apply List.ext_getElem (by simp)
        intro i h1 h2
        simp [h1]
      conv => lhs; arg 2; rw [this]
      rw [List.flatMap_map]
      refine flat_congr _ _ _ fun q hq => ?_
      have hq := List.mem_range.1 hq
      rw [List.map_map, List.map_map]
      apply List.map_congr_left
      intro r hr
      have hr := List.mem_range.1 hr
      simp only [Function.comp]
      rw [dig, if_pos hx, dig_add vs hv]
      have e : (q * vs.length ^ unk st + r) / vs.length ^ unk st = q := by
        rw [Nat.mul_comm, Nat.mul_add_div hK, Nat.div_eq_of_lt hr, Nat.add_zero]
      rw [e, Nat.mod_eq_of_lt hq]
    · have hu : unk (x :: st) = unk st := by simp [unk, hx]
      rw [if_neg hx, hu, ih, List.map_map]
      apply List.map_congr_left
      intro n _
      simp [dig, hx]

/-- Node i has changed its state. -/
def chgB (par : List (List Int)) (all : List Int) (i : Nat) : Bool := !(par.getD i []).isEmpty && !((par.getD i []).any fun p => all.getD p.toNat 0 == all.getD i 0)
def costN (par : List (List Int)) (all : List Int) : Nat := ((List.range par.length).filter (chgB par all)).length
theorem costN_le (par : List (List Int)) (all : List Int) : costN par all ≤ par.length := by
  unfold costN
  exact Nat.le_trans (List.length_filter_le _ _) (by simp)
def bstep (f : List Int → Nat) (o : List Int × Int) (a : List Int) : List Int × Int := if o.2 < 0 ∨ (f a : Int) < o.2 then (a, (f a : Int)) else o
/-- The first of the best ones, and its cost. -/
def bestA (f : List Int → Nat) (l : List (List Int)) : List Int × Int := l.foldl (bstep f) ([], -1)
theorem bestA_snoc (f : List Int → Nat) (l : List (List Int)) (a : List Int) : bestA f (l ++ [a]) = bstep f (bestA f l) a := by
  unfold bestA; rw [List.foldl_append]; rfl
theorem bstep_zero (f : List Int → Nat) (o : List Int × Int) (h : o.2 = 0) (a : List Int) : bstep f o a = o := by
  unfold bstep; rw [if_neg (by omega)]
theorem fold_zero (f : List Int → Nat) (l : List (List Int)) (o : List Int × Int) (h : o.2 = 0) : l.foldl (bstep f) o = o := by
  induction l with
  | nil => rfl
  | cons a l ih => rw [List.foldl_cons, bstep_zero f o h a]; exact ih
theorem bestA_zero (f : List Int → Nat) (l l' : List (List Int)) (h : (bestA f l).2 = 0) : bestA f (l ++ l') = bestA f l := by
  unfold bestA at *
  rw [List.foldl_append]
  exact fold_zero f l' _ h
theorem bestA_nil (f : List Int → Nat) : bestA f [] = ([], -1) := rfl
theorem bestA_spec (f : List Int → Nat) (l : List (List Int)) (hl : l ≠ []) : (bestA f l).1 ∈ l ∧ (bestA f l).2 = (f (bestA f l).1 : Int) ∧ ∀ b ∈ l, (bestA f l).2 ≤ (f b : Int) := by
  have key : ∀ l : List (List Int), (l = [] ∧ (bestA f l).2 = -1) ∨ ((bestA f l).1 ∈ l ∧ (bestA f l).2 = (f (bestA f l).1 : Int) ∧ ∀ b ∈ l, (bestA f l).2 ≤ (f b : Int)) := by
    intro l
    rw [← List.reverse_reverse l]
    generalize l.reverse = m
    induction m with
    | nil => exact .inl ⟨rfl, rfl⟩
    | cons a m ih =>
      right
      rw [List.reverse_cons, bestA_snoc]
      unfold bstep
      rcases ih with ⟨h1, h2⟩ | ⟨h1, h2, h3⟩
      · rw [if_pos (by omega), h1]
        exact ⟨by simp, rfl, fun b hb => by simp at hb; rw [hb]; exact Int.le_refl _⟩
      · by_cases hc : (bestA f m.reverse).2 < 0 ∨ (f a : Int) < (bestA f m.reverse).2
        · rw [if_pos hc]
          refine ⟨by simp, rfl, fun b hb => ?_⟩
          rcases List.mem_append.1 hb with hb | hb
          · have := h3 b hb
            have h4 : (f a : Int) < (bestA f m.reverse).2 := by omega
            show (f a : Int) ≤ f b
            omega
          · simp at hb; rw [hb]; exact Int.le_refl _
        · rw [if_neg hc]
          refine ⟨List.mem_append_left _ h1, h2, fun b hb => ?_⟩
          rcases List.mem_append.1 hb with hb | hb
          · exact h3 b hb
          · simp at hb; rw [hb]; omega
  rcases key l with ⟨h, _⟩ | h
  · exact absurd h hl
  · exact h
theorem asgs_ne (vs : List Int) (hv : 0 < vs.length) (st : List Int) : asgs vs st ≠ [] := by
  intro h
  have h1 := asgs_len vs st
  rw [h] at h1
  have := Nat.pow_pos (n := unk st) hv
  simp at h1
  omega
theorem occ_mem (st : List Int) (x : Int) (h : x ∈ st) (h0 : 0 ≤ x) (h1 : x < 16) : x ∈ occ st := by
  have hm : x ∈ srtK st 16 := (srtK_mem _ _ _).2 ⟨h, h0, h1⟩
  unfold occ
  rw [if_neg (List.ne_nil_of_mem hm)]
  exact hm

/-- Whatever states the unknown nodes have: some assignment of states that occur costs no more. -/
theorem recolor (par : List (List Int)) (st all : List Int) (hok : ∀ i, i < par.length → ∀ p ∈ par.getD i [], 0 ≤ p ∧ p.toNat < par.length) (hl : all.length = par.length) (hs : st.length = par.length)
    (hst : ∀ x ∈ st, -1 ≤ x ∧ x < 16) (hk : ∀ i, i < st.length → 0 ≤ st.getD i 0 → all.getD i 0 = st.getD i 0) : ∃ b ∈ asgs (occ st) st, costN par b ≤ costN par all := by
  let g : Int → Int := fun x => if x ∈ occ st then x else (occ st).getD 0 0
  have hg : ∀ i, i < all.length → (all.map g).getD i 0 = g (all.getD i 0) := fun i hi => by simp [hi]
  refine ⟨all.map g, (asgs_mem _ _ _).2 ⟨by simp [hl, hs], fun i hi => ?_⟩, ?_⟩
  · rw [hg i (by omega)]
    have hm : st.getD i 0 ∈ st := by rw [List.getD_eq_getElem?_getD, List.getElem?_eq_getElem hi]; exact List.getElem_mem hi
    split
    · show (if _ ∈ occ st then _ else _) ∈ occ st
      split
      · assumption
      · have := occ_pos st
        rw [List.getD_eq_getElem?_getD, List.getElem?_eq_getElem this]
        exact List.getElem_mem this
    · have h2 := hk i hi (by omega)
      rw [h2]
      show (if _ ∈ occ st then _ else _) = _
      rw [if_pos (occ_mem st _ hm (by omega) (hst _ hm).2)]
  · unfold costN
    rw [← List.countP_eq_length_filter, ← List.countP_eq_length_filter]
    refine List.countP_mono_left fun i hi hc => ?_
    have hi := List.mem_range.1 hi
    unfold chgB at *
    simp only [Bool.and_eq_true, Bool.not_eq_true', List.any_eq_false, beq_iff_eq] at *
    refine ⟨hc.1, fun p hp e => hc.2 p hp ?_⟩
    rw [hg _ (by have := hok i hi p hp; omega), hg _ (by omega), e]

theorem unk_app (a b : List Int) : unk (a ++ b) = unk a + unk b := by
  induction a with
  | nil => simp [unk]
  | cons x a ih => rw [List.cons_append, unk, unk, ih]; omega
theorem unk_take (st : List Int) (k : Nat) : unk (st.take k) ≤ unk st := by
  have := unk_app (st.take k) (st.drop k)
  rw [List.take_append_drop] at this
  omega
theorem unk_step (st : List Int) (k : Nat) (h : k < st.length) : unk (st.take (k + 1)) = unk (st.take k) + if st.getD k 0 < 0 then 1 else 0 := by
  rw [List.take_succ_eq_append_getElem h, unk_app, getD_lt _ _ _ h]
  simp [unk]
theorem many_hit (st : List Int) (k : Nat) (h : 65536 < (occ st).length ^ unk (st.take k)) : many st = true := by
  unfold many
  have := Nat.pow_le_pow_right (occ_pos st) (unk_take st k)
  exact decide_eq_true (by omega)
theorem many_end (st : List Int) (h : (occ st).length ^ unk st ≤ 65536) : many st = false := decide_eq_false (by omega)
theorem pow_small (st : List Int) (h : many st = false) : (occ st).length ^ unk st ≤ 65536 := by
  unfold many at h
  have := of_decide_eq_false h
  omega
end Go.Proofs.Ytmclgfipdgmomaa
