/-
  Part 10 of the proof: Pl38, Idx, C38. No statement of the seat is proved here.
-/
import Derived.Test.YtmclgfipdgmomaaMHAgreed9
namespace Go.Proofs.Ytmclgfipdgmomaa
def occ (st : List Int) : List Int := if srtK st 16 = [] then [0] else srtK st 16
theorem occ_ne (st : List Int) : occ st ≠ [] := by
  unfold occ
  split
  · simp
  · assumption
theorem occ_pos (st : List Int) : 0 < (occ st).length := List.length_pos_iff.2 (occ_ne st)
theorem occ_le (st : List Int) : (occ st).length ≤ 16 := by
  unfold occ
  split
  · simp
  · exact srtK_len _ _
theorem occ_range (st : List Int) : ∀ x ∈ occ st, 0 ≤ x ∧ x < 16 := by
  intro x hx
  unfold occ at hx
  split at hx
  · simp at hx; omega
  · have := (srtK_mem _ _ _).1 hx
    omega
def unk : List Int → Nat
  | [] => 0
  | x :: st => (if x < 0 then 1 else 0) + unk st
def many (st : List Int) : Bool := decide (65536 < (occ st).length ^ unk st)
def asgs (vs : List Int) : List Int → List (List Int)
  | [] => [[]]
  | x :: st => if x < 0 then vs.flatMap (fun v => (asgs vs st).map (v :: ·)) else (asgs vs st).map (x :: ·)
theorem flat_len {α β : Type} (f : α → List β) (c : Nat) : ∀ l : List α, (∀ x ∈ l, (f x).length = c) → (l.flatMap f).length = l.length * c
  | [], _ => by simp
  | x :: l, h => by rw [List.flatMap_cons, List.length_append, h x (by simp), flat_len f c l (fun y hy => h y (by simp [hy])), List.length_cons, Nat.succ_mul]; omega
theorem flat_congr {α β : Type} (f g : α → List β) : ∀ l : List α, (∀ x ∈ l, f x = g x) → l.flatMap f = l.flatMap g
  | [], _ => rfl
  | x :: l, h => by rw [List.flatMap_cons, List.flatMap_cons, h x (by simp), flat_congr f g l (fun y hy => h y (by simp [hy]))]
theorem asgs_len (vs st : List Int) : (asgs vs st).length = vs.length ^ unk st := by
  induction st with
  | nil => rfl
  | cons x st ih =>
    unfold asgs unk
    split
    · rw [flat_len _ (vs.length ^ unk st) vs (fun v _ => by rw [List.length_map, ih]), Nat.pow_add, Nat.pow_one]
    · simp [ih]
theorem asgs_mem (vs : List Int) : ∀ (st a : List Int), a ∈ asgs vs st ↔ a.length = st.length ∧ ∀ i, i < st.length → if st.getD i 0 < 0 then a.getD i 0 ∈ vs else a.getD i 0 = st.getD i 0 := by
  intro st
  induction st with
  | nil =>
    intro a
    unfold asgs
    simp only [List.mem_singleton, List.length_nil]
    constructor
    · rintro rfl; exact ⟨rfl, fun i hi => absurd hi (by omega)⟩
    · rintro ⟨h, _⟩; exact List.eq_nil_of_length_eq_zero h
  | cons x st ih =>
    intro a
    have key : ∀ (v : Int) (b : List Int), ((v :: b).length = (x :: st).length ∧ ∀ i, i < (x :: st).length → if (x :: st).getD i 0 < 0 then (v :: b).getD i 0 ∈ vs else (v :: b).getD i 0 = (x :: st).getD i 0) ↔
        (if x < 0 then v ∈ vs else v = x) ∧ b ∈ asgs vs st := by
      intro v b
      rw [ih b]
      constructor
      · rintro ⟨h1, h2⟩
        refine ⟨by have := h2 0 (by simp); simpa using this, by simpa using h1, fun i hi => ?_⟩
        have := h2 (i + 1) (by simp; omega)
        simpa using this
      · rintro ⟨h1, h2, h3⟩
        refine ⟨by simp [h2], fun i hi => ?_⟩
        cases i with
        | zero => simpa using h1
        | succ i =>
          have := h3 i (by simpa using hi)
          simpa using this
    unfold asgs
    split
    · rename_i hx
      simp only [List.mem_flatMap, List.mem_map]
      constructor
      · rintro ⟨v, hv, b, hb, rfl⟩
        exact (key v b).2 ⟨by rw [if_pos hx]; exact hv, hb⟩
      · intro h
        cases a with
        | nil => simp at h
        | cons v b =>
          have := (key v b).1 h
          rw [if_pos hx] at this
          exact ⟨v, this.1, b, this.2, rfl⟩
    · rename_i hx
      simp only [List.mem_map]
      constructor
      · rintro ⟨b, hb, rfl⟩
        exact (key x b).2 ⟨by rw [if_neg hx], hb⟩
      · intro h
        cases a with
        | nil => simp at h
        | cons v b =>
          have := (key v b).1 h
          rw [if_neg hx] at this
          exact ⟨b, this.2, by rw [this.1]⟩
def chgB (par : List (List Int)) (all : List Int) (i : Nat) : Bool := !(par.getD i []).isEmpty && !((par.getD i []).any fun p => all.getD p.toNat 0 == all.getD i 0)
def costN (par : List (List Int)) (all : List Int) : Nat := ((List.range par.length).filter (chgB par all)).length
def bstep (f : List Int → Nat) (o : List Int × Int) (a : List Int) : List Int × Int := if o.2 < 0 ∨ (f a : Int) < o.2 then (a, (f a : Int)) else o
def bestA (f : List Int → Nat) (l : List (List Int)) : List Int × Int := l.foldl (bstep f) ([], -1)
theorem bestA_snoc (f : List Int → Nat) (l : List (List Int)) (a : List Int) : bestA f (l ++ [a]) = bstep f (bestA f l) a := by
  unfold bestA; rw [List.foldl_append]; rfl
theorem bstep_zero (f : List Int → Nat) (o : List Int × Int) (h : o.2 = 0) (a : List Int) : bstep f o a = o := by
  unfold bstep; rw [if_neg (by omega)]
theorem fold_zero (f : List Int → Nat) (l : List (List Int)) (o : List Int × Int) (h : o.2 = 0) : l.foldl (bstep f) o = o := by
  induction l with
  | nil => rfl
  | cons a l ih => rw [List.foldl_cons, bstep_zero f o h a]; exact ih
theorem bestA_zero (f : List Int → Nat) (l l' : List (List Int)) (h : (bestA f l).2 = 0) : bestA f (l ++ l') = bestA f l := by
  unfold bestA at *
  rw [List.foldl_append]
  exact fold_zero f l' _ h
theorem bestA_spec (f : List Int → Nat) (l : List (List Int)) (hl : l ≠ []) : (bestA f l).1 ∈ l ∧ (bestA f l).2 = (f (bestA f l).1 : Int) ∧ ∀ b ∈ l, (bestA f l).2 ≤ (f b : Int) := by
  have key : ∀ l : List (List Int), (l = [] ∧ (bestA f l).2 = -1) ∨ ((bestA f l).1 ∈ l ∧ (bestA f l).2 = (f (bestA f l).1 : Int) ∧ ∀ b ∈ l, (bestA f l).2 ≤ (f b : Int)) := by
    intro l
    rw [← List.reverse_reverse l]
    generalize l.reverse = m
    induction m with
    | nil => exact .inl ⟨rfl, rfl⟩
    | cons a m ih =>
      right
      rw [List.reverse_cons, bestA_snoc]
      unfold bstep
      rcases ih with ⟨h1, h2⟩ | ⟨h1, h2, h3⟩
      · rw [if_pos (by omega), h1]
        exact ⟨by simp, rfl, fun b hb => by simp at hb; rw [hb]; exact Int.le_refl _⟩
      · by_cases hc : (bestA f m.reverse).2 < 0 ∨ (f a : Int) < (bestA f m.reverse).2
        · rw [if_pos hc]
          refine ⟨by simp, rfl, fun b hb => ?_⟩
          rcases List.mem_append.1 hb with hb | hb
          · have := h3 b hb
            have h4 : (f a : Int) < (bestA f m.reverse).2 := by omega
            show (f a : Int) ≤ f b
            omega
          · simp at hb; rw [hb]; exact Int.le_refl _
        · rw [if_neg hc]
          refine ⟨List.mem_append_left _ h1, h2, fun b hb => ?_⟩
          rcases List.mem_append.1 hb with hb | hb
          · exact h3 b hb
          · simp at hb; rw [hb]; omega
  rcases key l with ⟨h, _⟩ | h
  · exact absurd h hl
  · exact h
theorem asgs_ne (vs : List Int) (hv : 0 < vs.length) (st : List Int) : asgs vs st ≠ [] := by
  intro h
  have h1 := asgs_len vs st
  rw [h] at h1
  have := Nat.pow_pos (n := unk st) hv
  simp at h1
  omega
theorem unk_app (a b : List Int) : unk (a ++ b) = unk a + unk b := by
  induction a with
  | nil => simp [unk]
  | cons x a ih => rw [List.cons_append, unk, unk, ih]; omega
theorem unk_take (st : List Int) (k : Nat) : unk (st.take k) ≤ unk st := by
  have := unk_app (st.take k) (st.drop k)
  rw [List.take_append_drop] at this
  omega
theorem unk_step (st : List Int) (k : Nat) (h : k < st.length) : unk (st.take (k + 1)) = unk (st.take k) + if st.getD k 0 < 0 then 1 else 0 := by
  rw [List.take_succ_eq_append_getElem h, unk_app, getD_lt _ _ _ h]
  simp [unk]
theorem many_hit (st : List Int) (k : Nat) (h : 65536 < (occ st).length ^ unk (st.take k)) : many st = true := by
  unfold many
  have := Nat.pow_le_pow_right (occ_pos st) (unk_take st k)
  exact decide_eq_true (by omega)
theorem many_end (st : List Int) (h : (occ st).length ^ unk st ≤ 65536) : many st = false := decide_eq_false (by omega)
end Go.Proofs.Ytmclgfipdgmomaa
namespace Go.Proofs.Ytmclgfipdgmomaa
open Go.RowKit
def IdxW (p : Nat → Bool) (N : Nat) (u : Value) (L : List Res) : Prop := L = [] ∧ ((∃ k : Nat, k < N ∧ u = .int .i64 (k : Int) ∧ p k = true ∧ ∀ j, j < k → p j = false) ∨ (u = .int .i64 (-1) ∧ ∀ j, j < N → p j = false))
set_option maxRecDepth 100000 in
set_option maxHeartbeats 4000000 in
theorem indexW_int_sat (v : Value) (N : Nat) (e : Nat → Value) (p : Nat → Bool) (g : FuncId) (cs : Array Value) (w : World) (h : Sl w v 1 N e) (hf : ∀ k, k < N → ∀ w1, Below w.heap.size w w1 → SatV Try.prog g (e k :: cs.toList) w1 (.bool (p k))) :
    Sat Try.prog 78 [v, .func (.func g) #[] cs] w (IdxW p N) := by
  have hN := h.bound
  refine SatL.of 19 [4] Try.func78 (by kernel_rfl) (by kernel_rfl) rfl rfl rfl rfl ?_
  repeat' (first | (apply OK_seq) | (apply thenQ_n) | (apply OK_region) | (apply OKx_nilK) | (apply OK_block) | (apply blockQ_n) | (apply blockQ_s) | (apply thenQ_e) | (apply blockQ_e; exact rfl) | (apply thenQ_r) | (apply blockQ_r) | (apply OK_condT; exact rfl) | (apply OK_condF; exact rfl) | (apply OK_skip) | (apply OK_exit) | (apply OK_ret) | (apply OKx_move; ((conv => lhs; whnf) <;> exact rfl)) | (apply OKx_assign; ((conv => lhs; whnf) <;> exact rfl)) | (apply OKx_ldB; exact rfl; (first | exact at0 | exact at1 | exact at2 | exact at3 | exact at4 | exact at5 | exact at6 | exact at7); exact rfl) | (apply OKx_ldR; ((conv => lhs; whnf) <;> exact rfl); (with_reducible assumption)) | (apply OKx_ldI; exact rfl; (first | exact at0 | exact at1 | exact at2 | exact at3 | exact at4 | exact at5 | exact at6 | exact at7); omega) | (apply OKx_len; exact rfl) | (apply OKx_lenR; ((conv => lhs; whnf) <;> exact rfl); (with_reducible assumption)) | (apply OKx_lenR2; ((conv => lhs; whnf) <;> exact rfl); (with_reducible assumption)) | (apply OKx_lenO; ((conv => lhs; whnf) <;> exact rfl); (first | exact at0 | exact at1 | exact at2 | exact at3 | exact at4 | exact at5 | exact at6 | exact at7)) | (apply OKx_lss; exact rfl; exact rfl; all_goals (intro _; try (exfalso; omega))) | (apply OKx_idxO; exact rfl; exact rfl; omega) | (apply OKx_idxR; ((conv => lhs; whnf) <;> exact rfl); (with_reducible assumption); exact rfl; omega; intro _ _) | (apply OKx_idxOz; exact rfl; exact rfl; omega; omega) | (apply OKx_idxRz; ((conv => lhs; whnf) <;> exact rfl); (with_reducible assumption); exact rfl; omega; omega; intro _ _) | (apply OKx_inc; exact rfl; exact rfl; omega) | (apply OKx_addN; exact rfl; exact rfl; omega) | (apply OKx_add; exact rfl; exact rfl; omega; omega))
  refine OK_loop1 8 [4, 5, 8, 9, 10, 11, 12, 13, 14, 15, 16, 17, 18] (fun m v L => ∃ k : Nat, k + m = N ∧ v = .int .i64 (k : Int) ∧ (∀ j, j < k → p j = false) ∧ L = []) N [] (Ent.refl _ _) ⟨0, by omega, rfl, fun j hj => absurd hj (by omega), rfl⟩ ?_
  rintro m v' L G ⟨k, hm, rfl, H, rfl⟩
  repeat' (first | (apply OK_seq) | (apply thenQ_n) | (apply OK_region) | (refine OKx_callB (f := g) rfl rfl rfl (fun w hp => hf k (by omega) w hp.below) ?_ ?_ <;> intro hq) | (apply OKx_nilK) | (apply OK_block) | (apply blockQ_n) | (apply blockQ_s) | (apply thenQ_e) | (apply blockQ_e; exact rfl) | (apply thenQ_r) | (apply blockQ_r) | (apply OK_condT; exact rfl) | (apply OK_condF; exact rfl) | (apply OK_skip) | (apply OK_exit) | (apply OK_ret) | (apply OKx_move; ((conv => lhs; whnf) <;> exact rfl)) | (apply OKx_assign; ((conv => lhs; whnf) <;> exact rfl)) | (apply OKx_ldB; exact rfl; (first | exact at0 | exact at1 | exact at2 | exact at3 | exact at4 | exact at5 | exact at6 | exact at7); exact rfl) | (apply OKx_ldR; ((conv => lhs; whnf) <;> exact rfl); (with_reducible assumption)) | (apply OKx_ldI; exact rfl; (first | exact at0 | exact at1 | exact at2 | exact at3 | exact at4 | exact at5 | exact at6 | exact at7); omega) | (apply OKx_len; exact rfl) | (apply OKx_lenR; ((conv => lhs; whnf) <;> exact rfl); (with_reducible assumption)) | (apply OKx_lenR2; ((conv => lhs; whnf) <;> exact rfl); (with_reducible assumption)) | (apply OKx_lenO; ((conv => lhs; whnf) <;> exact rfl); (first | exact at0 | exact at1 | exact at2 | exact at3 | exact at4 | exact at5 | exact at6 | exact at7)) | (apply OKx_lss; exact rfl; exact rfl; all_goals (intro _; try (exfalso; omega))) | (apply OKx_idxO; exact rfl; exact rfl; omega) | (apply OKx_idxR; ((conv => lhs; whnf) <;> exact rfl); (with_reducible assumption); exact rfl; omega; intro _ _) | (apply OKx_idxOz; exact rfl; exact rfl; omega; omega) | (apply OKx_idxRz; ((conv => lhs; whnf) <;> exact rfl); (with_reducible assumption); exact rfl; omega; omega; intro _ _) | (apply OKx_inc; exact rfl; exact rfl; omega) | (apply OKx_addN; exact rfl; exact rfl; omega) | (apply OKx_add; exact rfl; exact rfl; omega; omega))
  · first | refine bodyQ_r1 (by ((conv => lhs; whnf) <;> exact rfl)) ?_ | refine bodyQ_r2 (by ((conv => lhs; whnf) <;> exact rfl)) (by ((conv => lhs; whnf) <;> exact rfl)) ?_ | refine bodyQ_r3 (by ((conv => lhs; whnf) <;> exact rfl)) (by ((conv => lhs; whnf) <;> exact rfl)) (by ((conv => lhs; whnf) <;> exact rfl)) ?_ | refine bodyQ_r0 ?_ | refine bodyQ_n0 ?_
    exact ⟨_, Ent.refl _ _, rfl, .inl ⟨k, by omega, rfl, hq, H⟩⟩
  · refine ⟨by (repeat' (first | refine agree_upd rfl ?_ | exact agree_over | exact agree_refl _ _ | refine agree_over2 rfl ?_)), m - 1, _, by omega, Ent.refl _ _, ?_⟩
    refine ⟨k + 1, by omega, rfl, fun j hj => ?_, rfl⟩
    by_cases hjk : j < k
    · exact H j hjk
    · obtain rfl : j = k := by omega
      exact hq
  · first | refine bodyQ_r1 (by ((conv => lhs; whnf) <;> exact rfl)) ?_ | refine bodyQ_r2 (by ((conv => lhs; whnf) <;> exact rfl)) (by ((conv => lhs; whnf) <;> exact rfl)) ?_ | refine bodyQ_r3 (by ((conv => lhs; whnf) <;> exact rfl)) (by ((conv => lhs; whnf) <;> exact rfl)) (by ((conv => lhs; whnf) <;> exact rfl)) ?_ | refine bodyQ_r0 ?_ | refine bodyQ_n0 ?_
    exact ⟨_, Ent.refl _ _, rfl, .inr ⟨rfl, fun j hj => H j (by omega)⟩⟩
theorem find_first (P : Int → Bool) : ∀ (xs : List Int) (i : Nat), i < xs.length → P (xs.getD i 0) = true → (∀ j, j < i → P (xs.getD j 0) = false) → xs.find? P = some (xs.getD i 0) := by
  intro xs
  induction xs with
  | nil => intro i h; simp at h
  | cons x xs ih =>
    intro i hi h1 h2
    cases i with
    | zero =>
      have e : P x = true := h1
      rw [List.find?_cons_of_pos e]; rfl
    | succ i =>
      have e : ¬ P x = true := by have := h2 0 (by omega); simpa using this
      rw [List.find?_cons_of_neg e]
      exact ih i (by simpa using hi) h1 (fun j hj => h2 (j + 1) (by omega))
end Go.Proofs.Ytmclgfipdgmomaa
namespace Go.Proofs.Ytmclgfipdgmomaa
open Go.RowKit
def badS (x : Int) : Bool := decide (x < -1) || decide (16 ≤ x)
def chkC (s : Stem) (st : List Int) : Int := if stCheck s ≠ 0 then 1 else if st.length ≠ s.par.length then 9 else if st.any badS = true then 2 else 0
theorem chkC_zero {s : Stem} {st : List Int} (h : chkC s st = 0) : stCheck s = 0 ∧ st.length = s.par.length ∧ ∀ x ∈ st, -1 ≤ x ∧ x < 16 := by
  unfold chkC at h
  split at h
  · omega
  split at h
  · omega
  split at h
  · omega
  · rename_i h1 h2 h3
    refine ⟨by simpa using h1, by simpa using h2, fun x hx => ?_⟩
    rw [Bool.not_eq_true, List.any_eq_false] at h3
    have := h3 x hx
    unfold badS at this
    simp at this
    omega
theorem anyN_any (xs : List Int) (P : Int → Bool) : anyN (fun j => P (xs.getD j 0)) xs.length = xs.any P := by
  cases h : xs.any P with
  | true =>
    obtain ⟨x, hx, hp⟩ := List.any_eq_true.1 h
    obtain ⟨j, hj, rfl⟩ := List.getElem_of_mem hx
    exact anyN_hit hj (by rw [getD_lt _ _ _ hj]; exact hp)
  | false =>
    rw [List.any_eq_false] at h
    exact anyN_none fun j hj => by
      have := h _ (List.getElem_mem hj)
      rw [getD_lt _ _ _ hj]
      simpa using this
set_option maxRecDepth 100000 in
set_option maxHeartbeats 4000000 in
theorem ck1_sat (x : Int) (w : World) : SatV Try.prog 66 [.int .i64 x] w (.bool (badS x)) := by
  refine SatL.of 9 [2] Try.func66 (by kernel_rfl) (by kernel_rfl) rfl rfl rfl rfl ?_
  repeat' (first | (apply OK_seq) | (apply thenQ_n) | (apply OK_region) | (apply OKx_nilK) | (apply OK_block) | (apply blockQ_n) | (apply blockQ_s) | (apply thenQ_e) | (apply blockQ_e; exact rfl) | (apply thenQ_r) | (apply blockQ_r) | (apply OK_condT; exact rfl) | (apply OK_condF; exact rfl) | (apply OK_skip) | (apply OK_exit) | (apply OK_ret) | (apply OKx_move; ((conv => lhs; whnf) <;> exact rfl)) | (apply OKx_assign; ((conv => lhs; whnf) <;> exact rfl)) | (apply OKx_lss; exact rfl; exact rfl; all_goals (intro _; try (exfalso; omega))) | (apply OKx_geq; exact rfl; exact rfl; all_goals (intro _; try (exfalso; omega))) | (apply OKx_pickT; exact rfl; ((conv => lhs; whnf) <;> exact rfl)) | (apply OKx_pickF; exact rfl; ((conv => lhs; whnf) <;> exact rfl)) | (apply OKx_guardT; exact rfl; exact rfl) | (apply OKx_guardF; exact rfl; exact rfl) | (apply OKx_guardU; exact rfl; exact rfl))
  all_goals
    first | refine bodyQ_r1 (by ((conv => lhs; whnf) <;> exact rfl)) ?_ | refine bodyQ_r2 (by ((conv => lhs; whnf) <;> exact rfl)) (by ((conv => lhs; whnf) <;> exact rfl)) ?_ | refine bodyQ_r3 (by ((conv => lhs; whnf) <;> exact rfl)) (by ((conv => lhs; whnf) <;> exact rfl)) (by ((conv => lhs; whnf) <;> exact rfl)) ?_ | refine bodyQ_r0 ?_ | refine bodyQ_n0 ?_
    refine ⟨_, Ent.nil, bool_eq ?_, rfl⟩
    unfold badS
    first
      | (rw [decide_eq_true (p := x < -1) (by omega)]; rfl)
      | (rw [decide_eq_false (p := x < -1) (by omega), decide_eq_true (p := 16 ≤ x) (by omega)]; rfl)
      | (rw [decide_eq_false (p := x < -1) (by omega), decide_eq_false (p := 16 ≤ x) (by omega)]; rfl)
set_option maxRecDepth 100000 in
set_option maxHeartbeats 4000000 in
theorem Chk_sat (v sv : Value) (s : Stem) (st : List Int) (w : World) (h : Stm w v s) (hs : Ints w sv st) : SatV Try.prog 23 [v, sv] w (.int .i64 (chkC s st)) := by
  have hst := h
  obtain ⟨nv, ev, pv, rfl, hS, _, hP⟩ := h
  obtain ⟨fv, hpv, hrow⟩ := hP.rows
  have hsv := hs.sl
  have hpb := hpv.bound
  have hsb := hsv.bound
  refine SatL.of 19 [4] Try.func23 (by kernel_rfl) (by kernel_rfl) rfl rfl rfl rfl ?_
  repeat' (first | (apply OK_seq) | (apply thenQ_n) | (apply OK_region) | (apply OKx_gc 48; exact rfl; refine OKx_callV (f := 48) rfl rfl rfl (fun w1 hp => stCheck_sat _ s w1 (hst.below hp.below)) ?_) | (apply OKx_gc 45; exact rfl; refine OKx_callB (f := 45) (b := st.any badS) rfl rfl rfl (fun w1 hp => by rw [← anyN_any]; exact containsF_int_sat _ _ _ _ _ _ w1 (hsv.below hp.below) (fun j hj w2 hb2 => ck1_sat _ w2)) ?_ ?_ <;> intro hq) | (apply OKx_nilK) | (apply OK_block) | (apply blockQ_n) | (apply blockQ_s) | (apply thenQ_e) | (apply blockQ_e; exact rfl) | (apply thenQ_r) | (apply blockQ_r) | (apply OK_condT; exact rfl) | (apply OK_condF; exact rfl) | (apply OK_skip) | (apply OK_exit) | (apply OK_ret) | (apply OKx_move; ((conv => lhs; whnf) <;> exact rfl)) | (apply OKx_assign; ((conv => lhs; whnf) <;> exact rfl)) | (apply OKx_ldB; exact rfl; (first | exact at0 | exact at1 | exact at2 | exact at3 | exact at4 | exact at5 | exact at6 | exact at7); exact rfl) | (apply OKx_ldR; ((conv => lhs; whnf) <;> exact rfl); (with_reducible assumption)) | (apply OKx_len; exact rfl) | (apply OKx_lenR; ((conv => lhs; whnf) <;> exact rfl); (with_reducible assumption)) | (apply OKx_lenR2; ((conv => lhs; whnf) <;> exact rfl); (with_reducible assumption)) | (apply OKx_lenO; ((conv => lhs; whnf) <;> exact rfl); (first | exact at0 | exact at1 | exact at2 | exact at3 | exact at4 | exact at5 | exact at6 | exact at7)) | (apply OKx_neq; exact rfl; exact rfl; all_goals (intro _; try (exfalso; omega))) | (apply OKx_fldO; exact rfl; exact rfl) | (apply OKx_fldR; ((conv => lhs; whnf) <;> exact rfl); (with_reducible assumption); decide; intro _ _) | (apply OKx_boxA; exact rfl; intro _) | (apply OKx_ldBA; exact rfl; (first | exact at0 | exact at1 | exact at2 | exact at3 | exact at4 | exact at5 | exact at6 | exact at7); exact rfl) | (apply OKx_ldRA; ((conv => lhs; whnf) <;> exact rfl); (with_reducible assumption)))
  all_goals
    first | refine bodyQ_r1 (by ((conv => lhs; whnf) <;> exact rfl)) ?_ | refine bodyQ_r2 (by ((conv => lhs; whnf) <;> exact rfl)) (by ((conv => lhs; whnf) <;> exact rfl)) ?_ | refine bodyQ_r3 (by ((conv => lhs; whnf) <;> exact rfl)) (by ((conv => lhs; whnf) <;> exact rfl)) (by ((conv => lhs; whnf) <;> exact rfl)) ?_ | refine bodyQ_r0 ?_ | refine bodyQ_n0 ?_
    refine ⟨_, Ent.nil, int_eq ?_, rfl⟩
    unfold chkC
    first
      | rw [if_pos (by omega)]
      | rw [if_neg (by omega), if_pos (by omega)]
      | rw [if_neg (by omega), if_neg (by omega), if_pos hq]
      | rw [if_neg (by omega), if_neg (by omega), if_neg (by rw [hq]; simp)]
def pos0 (st : List Int) (k : Nat) : List Int := (st.take k).filter (fun x => decide (0 ≤ x))
theorem pos0_step (st : List Int) (k : Nat) (h : k < st.length) : pos0 st (k + 1) = pos0 st k ++ if 0 ≤ st.getD k 0 then [st.getD k 0] else [] := by
  unfold pos0
  rw [List.take_succ_eq_append_getElem h, List.filter_append, getD_lt _ _ _ h]
  congr 1
  by_cases h0 : 0 ≤ st[k]
  · simp [h0]
  · simp [h0]
theorem pos0_mem (st : List Int) (k : Nat) (hk : st.length ≤ k) (x : Int) : x ∈ pos0 st k ↔ x ∈ st ∧ 0 ≤ x := by
  unfold pos0
  rw [List.take_of_length_le hk, List.mem_filter]
  simp
theorem occ_nil (st : List Int) (k : Nat) (hk : st.length ≤ k) (h : (pos0 st k).length = 0) : occ st = [0] := by
  unfold occ
  rw [if_pos]
  rw [List.eq_nil_iff_forall_not_mem]
  intro x hx
  have h1 := (srtK_mem _ _ _).1 hx
  have h2 := (pos0_mem st k hk x).2 ⟨h1.1, h1.2.1⟩
  rw [List.eq_nil_of_length_eq_zero h] at h2
  simp at h2
theorem occ_cons (st : List Int) (k : Nat) (hk : st.length ≤ k) (hr : ∀ x ∈ st, x < 16) (h : (pos0 st k).length ≠ 0) : Lib.compact (srtL (pos0 st k)) = occ st := by
  have e : Lib.compact (srtL (pos0 st k)) = srtK st 16 := by
    refine asc_ext _ _ (compact_asc _ (srtL_le _)) (srtK_asc _ _) fun x => ?_
    rw [compact_mem, srtL_mem, pos0_mem st k hk, srtK_mem]
    constructor
    · rintro ⟨h1, h2⟩; exact ⟨h1, h2, hr x h1⟩
    · rintro ⟨h1, h2, _⟩; exact ⟨h1, h2⟩
  have hne : srtK st 16 ≠ [] := by
    rw [← e]
    intro h0
    have : pos0 st k ≠ [] := fun h1 => h (by rw [h1]; rfl)
    obtain ⟨x, hx⟩ := List.exists_mem_of_ne_nil _ this
    have h2 := (compact_mem (srtL (pos0 st k)) x).2 ((srtL_mem _ _).2 hx)
    rw [h0] at h2
    simp at h2
  unfold occ
  rw [if_neg hne]
  exact e
def OccR (st : List Int) (u : Value) (L : List Res) : Prop := ∃ g n c, n = (occ st).length ∧ u = .slice (some ⟨g, 0, none⟩) n c ∧ L = [.row 3 1 u n (ints (occ st))]
set_option maxRecDepth 100000 in
set_option maxHeartbeats 4000000 in
theorem occur_sat (v : Value) (st : List Int) (w : World) (h : Ints w v st) (hr : ∀ x ∈ st, x < 16) (hl : st.length ≤ 1000) : Sat Try.prog 112 [v] w (OccR st) := by
  have hv := h.sl
  refine SatL.of 27 [2] Try.func112 (by kernel_rfl) (by kernel_rfl) rfl rfl rfl rfl ?_
  repeat' (first | (apply OK_seq) | (apply thenQ_n) | (apply OK_region) | (apply OKx_nilK) | (apply OK_block) | (apply blockQ_n) | (apply blockQ_s) | (apply thenQ_e) | (apply blockQ_e; exact rfl) | (apply thenQ_r) | (apply blockQ_r) | (apply OK_condT; exact rfl) | (apply OK_condF; exact rfl) | (apply OK_skip) | (apply OK_exit) | (apply OK_ret) | (apply OKx_move; ((conv => lhs; whnf) <;> exact rfl)) | (apply OKx_assign; ((conv => lhs; whnf) <;> exact rfl)) | (apply OKx_ldB; exact rfl; (first | exact at0 | exact at1 | exact at2 | exact at3 | exact at4 | exact at5 | exact at6 | exact at7); exact rfl) | (apply OKx_ldR; ((conv => lhs; whnf) <;> exact rfl); (with_reducible assumption)) | (apply OKx_ldI; exact rfl; (first | exact at0 | exact at1 | exact at2 | exact at3 | exact at4 | exact at5 | exact at6 | exact at7); omega) | (apply OKx_len; exact rfl) | (apply OKx_lenR; ((conv => lhs; whnf) <;> exact rfl); (with_reducible assumption)) | (apply OKx_lenR2; ((conv => lhs; whnf) <;> exact rfl); (with_reducible assumption)) | (apply OKx_lenO; ((conv => lhs; whnf) <;> exact rfl); (first | exact at0 | exact at1 | exact at2 | exact at3 | exact at4 | exact at5 | exact at6 | exact at7)) | (apply OKx_lss; exact rfl; exact rfl; all_goals (intro _; try (exfalso; omega))) | (apply OKx_geq; exact rfl; exact rfl; all_goals (intro _; try (exfalso; omega))) | (apply OKx_eql; exact rfl; exact rfl; all_goals (intro _; try (exfalso; omega))) | (apply OKx_idxO; exact rfl; exact rfl; omega) | (apply OKx_idxR; ((conv => lhs; whnf) <;> exact rfl); (with_reducible assumption); exact rfl; omega; intro _ _) | (apply OKx_idxOz; exact rfl; exact rfl; omega; omega) | (apply OKx_idxRz; ((conv => lhs; whnf) <;> exact rfl); (with_reducible assumption); exact rfl; omega; omega; intro _ _) | (apply OKx_inc; exact rfl; exact rfl; omega) | (apply OKx_addN; exact rfl; exact rfl; omega) | (apply OKx_add; exact rfl; exact rfl; omega; omega) | (apply OKx_slit1; ((conv => lhs; whnf) <;> exact rfl); exact rfl; intro _))
  refine OK_loop2 3 8 [3, 5, 8, 9, 10, 11, 12, 13, 14, 15, 16, 17, 18] (fun m u v L => ∃ (k n : Nat) (a : Option Addr) (c : Nat), k + m = st.length ∧ n = (pos0 st k).length ∧ n ≤ k ∧ u = .slice a n c ∧ (n = 0 ∨ ∃ g, a = some ⟨g, 0, none⟩) ∧ v = .int .i64 (k : Int) ∧ L = [.row 3 1 (.slice a n c) n (ints (pos0 st k))]) st.length _ (Ent.mk fun w1 hp => hp.nil 3 1) ⟨0, 0, none, 0, by omega, rfl, by omega, rfl, .inl rfl, rfl, rfl⟩ ?_
  rintro m u v L G ⟨k, n, a, c, hm, hn, hnk, rfl, ha, rfl, rfl⟩
  by_cases hk : k < st.length
  · have hs := pos0_step st k hk
    generalize hys : pos0 st k = ys at *
    repeat' (first | (apply OK_seq) | (apply thenQ_n) | (apply OK_region) | (apply OKx_gb; refine OKx_appI 1 0 rfl rfl rfl rfl (by omega) (by omega) ?_; intro g2 c2) | (apply OKx_nilK) | (apply OK_block) | (apply blockQ_n) | (apply blockQ_s) | (apply thenQ_e) | (apply blockQ_e; exact rfl) | (apply thenQ_r) | (apply blockQ_r) | (apply OK_condT; exact rfl) | (apply OK_condF; exact rfl) | (apply OK_skip) | (apply OK_exit) | (apply OK_ret) | (apply OKx_move; ((conv => lhs; whnf) <;> exact rfl)) | (apply OKx_assign; ((conv => lhs; whnf) <;> exact rfl)) | (apply OKx_ldB; exact rfl; (first | exact at0 | exact at1 | exact at2 | exact at3 | exact at4 | exact at5 | exact at6 | exact at7); exact rfl) | (apply OKx_ldR; ((conv => lhs; whnf) <;> exact rfl); (with_reducible assumption)) | (apply OKx_ldI; exact rfl; (first | exact at0 | exact at1 | exact at2 | exact at3 | exact at4 | exact at5 | exact at6 | exact at7); omega) | (apply OKx_len; exact rfl) | (apply OKx_lenR; ((conv => lhs; whnf) <;> exact rfl); (with_reducible assumption)) | (apply OKx_lenR2; ((conv => lhs; whnf) <;> exact rfl); (with_reducible assumption)) | (apply OKx_lenO; ((conv => lhs; whnf) <;> exact rfl); (first | exact at0 | exact at1 | exact at2 | exact at3 | exact at4 | exact at5 | exact at6 | exact at7)) | (apply OKx_lss; exact rfl; exact rfl; all_goals (intro _; try (exfalso; omega))) | (apply OKx_geq; exact rfl; exact rfl; all_goals (intro _; try (exfalso; omega))) | (apply OKx_eql; exact rfl; exact rfl; all_goals (intro _; try (exfalso; omega))) | (apply OKx_idxO; exact rfl; exact rfl; omega) | (apply OKx_idxR; ((conv => lhs; whnf) <;> exact rfl); (with_reducible assumption); exact rfl; omega; intro _ _) | (apply OKx_idxOz; exact rfl; exact rfl; omega; omega) | (apply OKx_idxRz; ((conv => lhs; whnf) <;> exact rfl); (with_reducible assumption); exact rfl; omega; omega; intro _ _) | (apply OKx_inc; exact rfl; exact rfl; omega) | (apply OKx_addN; exact rfl; exact rfl; omega) | (apply OKx_add; exact rfl; exact rfl; omega; omega) | (apply OKx_slit1; ((conv => lhs; whnf) <;> exact rfl); exact rfl; intro _))
    · rw [if_pos (by assumption)] at hs
      refine ⟨by (repeat' (first | refine agree_upd rfl ?_ | exact agree_over | exact agree_refl _ _ | refine agree_over2 rfl ?_)), m - 1, _, by omega, Ent.pick [1] rfl, ?_⟩
      exact ⟨k + 1, n + 1, some ⟨g2, 0, none⟩, c2, by omega, by rw [hs, List.length_append, hn]; rfl, by omega, rfl, .inr ⟨g2, rfl⟩, rfl, by rw [hs]; rfl⟩
    · rw [if_neg (by omega), List.append_nil] at hs
      refine ⟨by (repeat' (first | refine agree_upd rfl ?_ | exact agree_over | exact agree_refl _ _ | refine agree_over2 rfl ?_)), m - 1, _, by omega, Ent.refl _ _, ?_⟩
      exact ⟨k + 1, n, a, c, by omega, by rw [hs]; exact hn, by omega, rfl, ha, rfl, by rw [hs]⟩
  · have hkl : st.length ≤ k := by omega
    by_cases hn0 : n = 0
    · subst hn0
      repeat' (first | (apply OK_seq) | (apply thenQ_n) | (apply OK_region) | (apply OKx_nilK) | (apply OK_block) | (apply blockQ_n) | (apply blockQ_s) | (apply thenQ_e) | (apply blockQ_e; exact rfl) | (apply thenQ_r) | (apply blockQ_r) | (apply OK_condT; exact rfl) | (apply OK_condF; exact rfl) | (apply OK_skip) | (apply OK_exit) | (apply OK_ret) | (apply OKx_move; ((conv => lhs; whnf) <;> exact rfl)) | (apply OKx_assign; ((conv => lhs; whnf) <;> exact rfl)) | (apply OKx_ldB; exact rfl; (first | exact at0 | exact at1 | exact at2 | exact at3 | exact at4 | exact at5 | exact at6 | exact at7); exact rfl) | (apply OKx_ldR; ((conv => lhs; whnf) <;> exact rfl); (with_reducible assumption)) | (apply OKx_ldI; exact rfl; (first | exact at0 | exact at1 | exact at2 | exact at3 | exact at4 | exact at5 | exact at6 | exact at7); omega) | (apply OKx_len; exact rfl) | (apply OKx_lenR; ((conv => lhs; whnf) <;> exact rfl); (with_reducible assumption)) | (apply OKx_lenR2; ((conv => lhs; whnf) <;> exact rfl); (with_reducible assumption)) | (apply OKx_lenO; ((conv => lhs; whnf) <;> exact rfl); (first | exact at0 | exact at1 | exact at2 | exact at3 | exact at4 | exact at5 | exact at6 | exact at7)) | (apply OKx_lss; exact rfl; exact rfl; all_goals (intro _; try (exfalso; omega))) | (apply OKx_geq; exact rfl; exact rfl; all_goals (intro _; try (exfalso; omega))) | (apply OKx_eql; exact rfl; exact rfl; all_goals (intro _; try (exfalso; omega))) | (apply OKx_idxO; exact rfl; exact rfl; omega) | (apply OKx_idxR; ((conv => lhs; whnf) <;> exact rfl); (with_reducible assumption); exact rfl; omega; intro _ _) | (apply OKx_idxOz; exact rfl; exact rfl; omega; omega) | (apply OKx_idxRz; ((conv => lhs; whnf) <;> exact rfl); (with_reducible assumption); exact rfl; omega; omega; intro _ _) | (apply OKx_inc; exact rfl; exact rfl; omega) | (apply OKx_addN; exact rfl; exact rfl; omega) | (apply OKx_add; exact rfl; exact rfl; omega; omega) | (apply OKx_slit1; ((conv => lhs; whnf) <;> exact rfl); exact rfl; intro _))
      first | refine bodyQ_r1 (by ((conv => lhs; whnf) <;> exact rfl)) ?_ | refine bodyQ_r2 (by ((conv => lhs; whnf) <;> exact rfl)) (by ((conv => lhs; whnf) <;> exact rfl)) ?_ | refine bodyQ_r3 (by ((conv => lhs; whnf) <;> exact rfl)) (by ((conv => lhs; whnf) <;> exact rfl)) (by ((conv => lhs; whnf) <;> exact rfl)) ?_ | refine bodyQ_r0 ?_ | refine bodyQ_n0 ?_
      have ho := occ_nil st k hkl hn.symm
      exact ⟨_, Ent.pick [0] rfl, _, 1, _, by rw [ho]; rfl, rfl, by rw [ho]; rfl⟩
    · obtain ⟨g, rfl⟩ := ha.resolve_left hn0
      have ho := occ_cons st k hkl hr (by omega)
      have hsl : (srtL (pos0 st k)).length = n := by rw [hn]; exact List.length_mergeSort _
      repeat' (first | (apply OK_seq) | (apply thenQ_n) | (apply OK_region) | (apply OKx_gc 74; exact rfl; refine OKx_callL (f := 74) rfl rfl (sort_int_sat g c n (pos0 st k) _ _ 0 hn.symm rfl (by omega)) ?_; rintro _ _ ⟨rfl, rfl⟩) | (apply OKx_gc 57; exact rfl; refine OKx_callL (f := 57) rfl rfl (compact_int_sat g c n (srtL (pos0 st k)) _ _ 0 hsl rfl (by omega)) ?_; rintro _ _ ⟨kk, hkk, rfl, rfl⟩) | (apply OKx_nilK) | (apply OK_block) | (apply blockQ_n) | (apply blockQ_s) | (apply thenQ_e) | (apply blockQ_e; exact rfl) | (apply thenQ_r) | (apply blockQ_r) | (apply OK_condT; exact rfl) | (apply OK_condF; exact rfl) | (apply OK_skip) | (apply OK_exit) | (apply OK_ret) | (apply OKx_move; ((conv => lhs; whnf) <;> exact rfl)) | (apply OKx_assign; ((conv => lhs; whnf) <;> exact rfl)) | (apply OKx_ldB; exact rfl; (first | exact at0 | exact at1 | exact at2 | exact at3 | exact at4 | exact at5 | exact at6 | exact at7); exact rfl) | (apply OKx_ldR; ((conv => lhs; whnf) <;> exact rfl); (with_reducible assumption)) | (apply OKx_ldI; exact rfl; (first | exact at0 | exact at1 | exact at2 | exact at3 | exact at4 | exact at5 | exact at6 | exact at7); omega) | (apply OKx_len; exact rfl) | (apply OKx_lenR; ((conv => lhs; whnf) <;> exact rfl); (with_reducible assumption)) | (apply OKx_lenR2; ((conv => lhs; whnf) <;> exact rfl); (with_reducible assumption)) | (apply OKx_lenO; ((conv => lhs; whnf) <;> exact rfl); (first | exact at0 | exact at1 | exact at2 | exact at3 | exact at4 | exact at5 | exact at6 | exact at7)) | (apply OKx_lss; exact rfl; exact rfl; all_goals (intro _; try (exfalso; omega))) | (apply OKx_geq; exact rfl; exact rfl; all_goals (intro _; try (exfalso; omega))) | (apply OKx_eql; exact rfl; exact rfl; all_goals (intro _; try (exfalso; omega))) | (apply OKx_idxO; exact rfl; exact rfl; omega) | (apply OKx_idxR; ((conv => lhs; whnf) <;> exact rfl); (with_reducible assumption); exact rfl; omega; intro _ _) | (apply OKx_idxOz; exact rfl; exact rfl; omega; omega) | (apply OKx_idxRz; ((conv => lhs; whnf) <;> exact rfl); (with_reducible assumption); exact rfl; omega; omega; intro _ _) | (apply OKx_inc; exact rfl; exact rfl; omega) | (apply OKx_addN; exact rfl; exact rfl; omega) | (apply OKx_add; exact rfl; exact rfl; omega; omega) | (apply OKx_slit1; ((conv => lhs; whnf) <;> exact rfl); exact rfl; intro _))
      first | refine bodyQ_r1 (by ((conv => lhs; whnf) <;> exact rfl)) ?_ | refine bodyQ_r2 (by ((conv => lhs; whnf) <;> exact rfl)) (by ((conv => lhs; whnf) <;> exact rfl)) ?_ | refine bodyQ_r3 (by ((conv => lhs; whnf) <;> exact rfl)) (by ((conv => lhs; whnf) <;> exact rfl)) (by ((conv => lhs; whnf) <;> exact rfl)) ?_ | refine bodyQ_r0 ?_ | refine bodyQ_n0 ?_
      exact ⟨_, Ent.refl _ _, g, kk, c, by rw [hkk, ho], rfl, by rw [ho]; rfl⟩
set_option maxRecDepth 100000 in
set_option maxHeartbeats 4000000 in
theorem tooMany_sat (v : Value) (st : List Int) (w : World) (h : Ints w v st) (hr : ∀ x ∈ st, x < 16) (hl : st.length ≤ 1000) : SatV Try.prog 93 [v] w (.bool (many st)) := by
  have hv := h.sl
  have ho16 := occ_le st
  have ho0 := occ_pos st
  refine SatL.of 24 [2] Try.func93 (by kernel_rfl) (by kernel_rfl) rfl rfl rfl rfl ?_
  repeat' (first | (apply OK_seq) | (apply thenQ_n) | (apply OK_region) | (apply OKx_gc 112; exact rfl; refine OKx_call (f := 112) rfl rfl (fun w1 hp => occur_sat _ st w1 (h.below hp.below) hr hl) ?_; rintro _ _ ⟨g, n, c, hn, rfl, rfl⟩) | (apply OKx_nilK) | (apply OK_block) | (apply blockQ_n) | (apply blockQ_s) | (apply thenQ_e) | (apply blockQ_e; exact rfl) | (apply thenQ_r) | (apply blockQ_r) | (apply OK_condT; exact rfl) | (apply OK_condF; exact rfl) | (apply OK_skip) | (apply OK_exit) | (apply OK_ret) | (apply OKx_move; ((conv => lhs; whnf) <;> exact rfl)) | (apply OKx_assign; ((conv => lhs; whnf) <;> exact rfl)) | (apply OKx_ldB; exact rfl; (first | exact at0 | exact at1 | exact at2 | exact at3 | exact at4 | exact at5 | exact at6 | exact at7); exact rfl) | (apply OKx_ldR; ((conv => lhs; whnf) <;> exact rfl); (with_reducible assumption)) | (apply OKx_ldI; exact rfl; (first | exact at0 | exact at1 | exact at2 | exact at3 | exact at4 | exact at5 | exact at6 | exact at7); omega) | (apply OKx_len; exact rfl) | (apply OKx_lenR; ((conv => lhs; whnf) <;> exact rfl); (with_reducible assumption)) | (apply OKx_lenR2; ((conv => lhs; whnf) <;> exact rfl); (with_reducible assumption)) | (apply OKx_lenO; ((conv => lhs; whnf) <;> exact rfl); (first | exact at0 | exact at1 | exact at2 | exact at3 | exact at4 | exact at5 | exact at6 | exact at7)) | (apply OKx_lss; exact rfl; exact rfl; all_goals (intro _; try (exfalso; omega))) | (apply OKx_gtr; exact rfl; exact rfl; all_goals (intro _; try (exfalso; omega))) | (apply OKx_geq; exact rfl; exact rfl; all_goals (intro _; try (exfalso; omega))) | (apply OKx_idxO; exact rfl; exact rfl; omega) | (apply OKx_idxR; ((conv => lhs; whnf) <;> exact rfl); (with_reducible assumption); exact rfl; omega; intro _ _) | (apply OKx_idxOz; exact rfl; exact rfl; omega; omega) | (apply OKx_idxRz; ((conv => lhs; whnf) <;> exact rfl); (with_reducible assumption); exact rfl; omega; omega; intro _ _) | (apply OKx_inc; exact rfl; exact rfl; omega) | (apply OKx_addN; exact rfl; exact rfl; omega) | (apply OKx_add; exact rfl; exact rfl; omega; omega))
  refine OK_loop2 3 12 [2, 3, 6, 12, 13, 14, 15, 16, 17, 18, 19, 20, 21, 22, 23] (fun m u v L => ∃ (k q : Nat), k + m = st.length ∧ q = (occ st).length ^ unk (st.take k) ∧ q ≤ 65536 ∧ u = .int .i64 (q : Int) ∧ v = .int .i64 (k : Int) ∧ L = []) st.length _ Ent.nil ⟨0, 1, by omega, by simp [unk], by omega, rfl, rfl, rfl⟩ ?_
  rintro m u v L G ⟨k, q, hm, hq, hq1, rfl, rfl, rfl⟩
  have hmul : 0 ≤ (q : Int) * (n : Int) ∧ (q : Int) * (n : Int) ≤ 65536 * 16 := ⟨Int.mul_nonneg (by omega) (by omega), Int.mul_le_mul (by omega) (by omega) (by omega) (by omega)⟩
  have hstep := unk_step st k
  repeat' (first | (apply OK_seq) | (apply thenQ_n) | (apply OK_region) | (apply OKx_gn; refine OKx_mul rfl rfl (by omega) (by omega) ?_) | (apply OKx_nilK) | (apply OK_block) | (apply blockQ_n) | (apply blockQ_s) | (apply thenQ_e) | (apply blockQ_e; exact rfl) | (apply thenQ_r) | (apply blockQ_r) | (apply OK_condT; exact rfl) | (apply OK_condF; exact rfl) | (apply OK_skip) | (apply OK_exit) | (apply OK_ret) | (apply OKx_move; ((conv => lhs; whnf) <;> exact rfl)) | (apply OKx_assign; ((conv => lhs; whnf) <;> exact rfl)) | (apply OKx_ldB; exact rfl; (first | exact at0 | exact at1 | exact at2 | exact at3 | exact at4 | exact at5 | exact at6 | exact at7); exact rfl) | (apply OKx_ldR; ((conv => lhs; whnf) <;> exact rfl); (with_reducible assumption)) | (apply OKx_ldI; exact rfl; (first | exact at0 | exact at1 | exact at2 | exact at3 | exact at4 | exact at5 | exact at6 | exact at7); omega) | (apply OKx_len; exact rfl) | (apply OKx_lenR; ((conv => lhs; whnf) <;> exact rfl); (with_reducible assumption)) | (apply OKx_lenR2; ((conv => lhs; whnf) <;> exact rfl); (with_reducible assumption)) | (apply OKx_lenO; ((conv => lhs; whnf) <;> exact rfl); (first | exact at0 | exact at1 | exact at2 | exact at3 | exact at4 | exact at5 | exact at6 | exact at7)) | (apply OKx_lss; exact rfl; exact rfl; all_goals (intro _; try (exfalso; omega))) | (apply OKx_gtr; exact rfl; exact rfl; all_goals (intro _; try (exfalso; omega))) | (apply OKx_geq; exact rfl; exact rfl; all_goals (intro _; try (exfalso; omega))) | (apply OKx_idxO; exact rfl; exact rfl; omega) | (apply OKx_idxR; ((conv => lhs; whnf) <;> exact rfl); (with_reducible assumption); exact rfl; omega; intro _ _) | (apply OKx_idxOz; exact rfl; exact rfl; omega; omega) | (apply OKx_idxRz; ((conv => lhs; whnf) <;> exact rfl); (with_reducible assumption); exact rfl; omega; omega; intro _ _) | (apply OKx_inc; exact rfl; exact rfl; omega) | (apply OKx_addN; exact rfl; exact rfl; omega) | (apply OKx_add; exact rfl; exact rfl; omega; omega))
  · refine ⟨by (repeat' (first | refine agree_upd rfl ?_ | exact agree_over | exact agree_refl _ _ | refine agree_over2 rfl ?_)), m - 1, _, by omega, Ent.refl _ _, ?_⟩
    refine ⟨k + 1, q, by omega, ?_, hq1, rfl, rfl, rfl⟩
    rw [hstep (by omega), if_neg (by omega)]; exact hq
  · have hx : (occ st).length ^ unk (st.take (k + 1)) = q * n := by
      rw [hstep (by omega), if_pos (by omega), Nat.pow_succ, ← hq, ← hn]
    first | refine bodyQ_r1 (by ((conv => lhs; whnf) <;> exact rfl)) ?_ | refine bodyQ_r2 (by ((conv => lhs; whnf) <;> exact rfl)) (by ((conv => lhs; whnf) <;> exact rfl)) ?_ | refine bodyQ_r3 (by ((conv => lhs; whnf) <;> exact rfl)) (by ((conv => lhs; whnf) <;> exact rfl)) (by ((conv => lhs; whnf) <;> exact rfl)) ?_ | refine bodyQ_r0 ?_ | refine bodyQ_n0 ?_
    refine ⟨_, Ent.nil, bool_eq (many_hit st (k + 1) ?_).symm, rfl⟩
    rw [hx]
    have : ((q * n : Nat) : Int) = (q : Int) * (n : Int) := by simp
    omega
  · have hx : (occ st).length ^ unk (st.take (k + 1)) = q * n := by
      rw [hstep (by omega), if_pos (by omega), Nat.pow_succ, ← hq, ← hn]
    have e : ((q * n : Nat) : Int) = (q : Int) * (n : Int) := by simp
    refine ⟨by (repeat' (first | refine agree_upd rfl ?_ | exact agree_over | exact agree_refl _ _ | refine agree_over2 rfl ?_)), m - 1, _, by omega, Ent.refl _ _, ?_⟩
    exact ⟨k + 1, q * n, by omega, hx.symm, by omega, int_eq e.symm, rfl, rfl⟩
  · first | refine bodyQ_r1 (by ((conv => lhs; whnf) <;> exact rfl)) ?_ | refine bodyQ_r2 (by ((conv => lhs; whnf) <;> exact rfl)) (by ((conv => lhs; whnf) <;> exact rfl)) ?_ | refine bodyQ_r3 (by ((conv => lhs; whnf) <;> exact rfl)) (by ((conv => lhs; whnf) <;> exact rfl)) (by ((conv => lhs; whnf) <;> exact rfl)) ?_ | refine bodyQ_r0 ?_ | refine bodyQ_n0 ?_
    refine ⟨_, Ent.nil, bool_eq (many_end st ?_).symm, rfl⟩
    rw [List.take_of_length_le (by omega)] at hq
    omega
end Go.Proofs.Ytmclgfipdgmomaa
