/-
  Part 18 of the proof: Pv33, Pw33, Px33, Bp33. No statement of the seat is proved here.
-/
import Derived.Test.YtpknpbeiifjmgaaGreatMHPs3317
namespace Go.Proofs.YtpknpbeiifjmgaaGreat
open Go.RowKit
theorem idxFrom_in2 (x : Int) : ∀ (zs : List Int) (i : Nat), x ∈ zs → 0 ≤ Lib.idxFrom zs x i
  | [], i, h => by cases h
  | z :: zs, i, h => by
    simp only [Lib.idxFrom]
    split
    · omega
    · rename_i e
      rcases List.mem_cons.1 h with h | h
      · exact absurd h.symm (by simpa using e)
      · exact idxFrom_in2 x zs (i + 1) h
theorem lvs_asc2 (t : Tre) : (lvs t).Pairwise (· < ·) := by
  unfold lvs lvL
  rw [List.pairwise_map]
  exact (List.Pairwise.filter _ List.pairwise_lt_range).imp (fun h => by omega)
theorem lvs_idx2 (t : Tre) (k : Nat) (hk : k < (lvs t).length) (x : Int) : Lib.idxOf (lvs t) x = (k : Int) ↔ (lvs t).getD k 0 = x := by
  unfold Lib.idxOf
  constructor
  · intro h
    obtain ⟨q, h1, h2, h3⟩ := idxFrom_at2 x (lvs t) 0 (by omega)
    obtain rfl : q = k := by omega
    exact h3
  · intro h
    have hm : x ∈ lvs t := by rw [← h, getD_lt _ _ _ hk]; exact List.getElem_mem _
    obtain ⟨q, h1, h2, h3⟩ := idxFrom_at2 x (lvs t) 0 (idxFrom_in2 x _ _ hm)
    have hp := List.pairwise_iff_getElem.1 (lvs_asc2 t)
    rw [getD_lt _ _ _ hk] at h
    rw [getD_lt _ _ _ h2] at h3
    rcases Nat.lt_trichotomy q k with hlt | heq | hgt
    · have := hp q k h2 hk hlt;omega
    · rw [h1];omega
    · have := hp k q hk h2 hgt;omega
theorem lvs_rng2 (t : Tre) (k : Nat) (hk : k < (lvs t).length) : ∃ q : Nat, (lvs t).getD k 0 = (q : Int) ∧ q < t.names.length := by
  have hm : (lvs t).getD k 0 ∈ lvs t := by rw [getD_lt _ _ _ hk]; exact List.getElem_mem _
  have hm2 := hm
  unfold lvs lvL at hm2
  rw [List.mem_map] at hm2
  obtain ⟨q, hq, e⟩ := hm2
  rw [List.mem_filter, List.mem_range] at hq
  exact ⟨q, e.symm, hq.1⟩
def subF (par : List Int) (v : Nat) : Nat → Nat → Bool
  | 0, i => decide (i = v)
  | f + 1, i => decide (i = v) || (decide (v < i) && subF par v f (par.getD i 0).toNat)
def sub33 (par : List Int) (v i : Nat) : Bool := subF par v i i
section
variable {par : List Int} (hup : ∀ i, 0 < i → i < par.length → 0 ≤ par.getD i 0 ∧ par.getD i 0 < (i : Int))
include hup
theorem subF_more (v : Nat) : ∀ f g i, i < par.length → i ≤ f → i ≤ g → subF par v f i = subF par v g i
  | 0, g, i, hi, h1, h2 => by
    obtain rfl : i = 0 := by omega
    cases g with
    | zero => rfl
    | succ g => simp [subF]
  | f + 1, 0, i, hi, h1, h2 => by
    obtain rfl : i = 0 := by omega
    simp [subF]
  | f + 1, g + 1, i, hi, h1, h2 => by
    rw [subF, subF]
    by_cases hv : v < i
    · have := hup i (by omega) hi
      rw [subF_more v f g (par.getD i 0).toNat (by omega) (by omega) (by omega)]
    · rw [decide_eq_false hv, Bool.false_and, Bool.false_and]
theorem sub_step (v i : Nat) (hi : i < par.length) (hv : v < i) : sub33 par v i = sub33 par v (par.getD i 0).toNat := by
  have h := hup i (by omega) hi
  obtain ⟨j, rfl⟩ : ∃ j, i = j + 1 := ⟨i - 1, by omega⟩
  unfold sub33
  rw [subF, decide_eq_false (by omega), Bool.false_or, decide_eq_true hv, Bool.true_and]
  exact subF_more hup v _ _ _ (by omega) (by omega) (by omega)
omit hup in
theorem sub_self (v : Nat) : sub33 par v v = true := by
  unfold sub33
  cases v <;> simp [subF]
omit hup in
theorem sub_less (v i : Nat) (h : i < v) : sub33 par v i = false := by
  unfold sub33
  cases i with
  | zero => simp [subF];omega
  | succ i => rw [subF, decide_eq_false (by omega), decide_eq_false (by omega)]; rfl
end
theorem cst_at (par : List Int) (S : Nat) (a : Nat → Nat) (hS : ∀ i, i < par.length → a i < S) (hup : ∀ i, 0 < i → i < par.length → 0 ≤ par.getD i 0 ∧ par.getD i 0 < (i : Int)) :
    cstV (cosT (uniL S)) par a = sumZ (fun i => if 0 < i ∧ a (par.getD i 0).toNat ≠ a i then 1 else 0) par.length := by
  unfold cstV
  refine sumZ_congr fun i hi => ?_
  by_cases h0 : i = 0
  · rw [if_pos h0, if_neg (by omega)]
  · have := hup i (by omega) hi
    rw [if_neg h0, uniL_cos S _ _ (hS _ (by omega)) (hS i hi)]
    by_cases e : a (par.getD i 0).toNat = a i
    · rw [if_pos e, if_neg (fun h => h.2 e)]
    · rw [if_neg e, if_pos ⟨by omega, e⟩]
def Fits33 (t : Tre) (st : List Int) (a : Nat → Nat) : Prop := (∀ i, i < t.par.length → a i < 16) ∧ ∀ i, i < t.par.length → knT (lvs t) st i < 0 ∨ knT (lvs t) st i = (a i : Int)
theorem fit_law {t : Tre} {st : List Int} (hc : treC t = 0) (hk : knwE st (lvs t).length (-1) 16 = 0) :
    (∀ a, Fits33 t st a → fitX t st ≤ cstV (cosT (uniL 16)) t.par a) ∧ (∃ a, Fits33 t st a ∧ cstV (cosT (uniL 16)) t.par a = fitX t st) ∧ 0 ≤ fitX t st := by
  have hlen := treC_len hc
  have ok : TrOk (cosT (uniL 16)) t.par (knT (lvs t) st) 16 := trOk_of hc (by omega) (fun a b => (uniL_rng 16 a b).1) hk
  have hms := minC_spec (fun _ => 0) (fun _ => Int.le_refl _) (tabV (cosT (uniL 16)) t.par (knT (lvs t) st) 16 0) 16
  have hX : fitX t st = (minC (fun _ => 0) (tabV (cosT (uniL 16)) t.par (knT (lvs t) st) 16 0) 16).1 := rfl
  rw [← hX] at hms
  obtain ⟨s, hs, hs0⟩ := ok.row_some 0 hlen.1
  have h0 := hms.2 s hs hs0
  refine ⟨fun a ⟨h1, h2⟩ => ?_, ?_, h0.1⟩
  · have h3 := ok.lower a hlen.1 h1 h2
    have h4 := (hms.2 (a 0) (h1 0 hlen.1) h3.1).2
    simp only [Int.zero_add] at h4
    exact Int.le_trans h4 h3.2
  · rcases hms.1 with ⟨hm1, _⟩ | ⟨q, hq, _, hq0, hqe⟩
    · omega
    obtain ⟨a, ha0, ha1, ha2, ha3⟩ := ok.reached q hlen.1 hq hq0
    exact ⟨a, ⟨ha1, ha2⟩, by rw [ha3, hqe];omega⟩
theorem sumZ_nil {f : Nat → Int} (h0 : ∀ i, 0 ≤ f i) : ∀ {n : Nat}, sumZ f n = 0 → ∀ i, i < n → f i = 0
  | 0, _, i, hi => absurd hi (by omega)
  | n + 1, h, i, hi => by
    rw [sumZ] at h
    have h1 := sumZ_nonneg (f := f) (n := n) (fun i _ => h0 i)
    have h2 := h0 n
    by_cases e : i = n
    · rw [e];omega
    · have e9 : sumZ f n = 0 := by omega
      exact sumZ_nil h0 e9 i (by omega)
theorem sumZ_just {f : Nat → Int} (h0 : ∀ i, f i = 0 ∨ f i = 1) : ∀ {n : Nat}, sumZ f n = 1 → ∃ k, k < n ∧ f k = 1 ∧ ∀ i, i < n → i ≠ k → f i = 0
  | 0, h => by simp [sumZ] at h
  | n + 1, h => by
    rw [sumZ] at h
    rcases h0 n with e | e
    · obtain ⟨k, h1, h2, h3⟩ := sumZ_just h0 (n := n) (by omega)
      refine ⟨k, by omega, h2, fun i hi hk => ?_⟩
      by_cases e2 : i = n
      · rw [e2]; exact e
      · exact h3 i (by omega) hk
    · refine ⟨n, by omega, e, fun i hi hk => ?_⟩
      have e9 : sumZ f n = 0 := by omega
      exact sumZ_nil (fun i => by rcases h0 i with h | h <;> omega) e9 i (by omega)
theorem knT_leaf {t : Tre} {st : List Int} (p : Nat) (hp : p < (lvs t).length) : ∃ q : Nat, q < t.names.length ∧ (lvs t).getD p 0 = (q : Int) ∧ knT (lvs t) st q = st.getD p 0 := by
  obtain ⟨q, h1, h2⟩ := lvs_rng2 t p hp
  refine ⟨q, h2, h1, ?_⟩
  unfold knT
  rw [(lvs_idx2 t p hp (q : Int)).2 h1, if_pos (by omega), Int.toNat_natCast]
theorem fit_zero {t : Tre} {st : List Int} (hc : treC t = 0) (hk : knwE st (lvs t).length (-1) 16 = 0) (hl : st.length = (lvs t).length) (hpos : ∀ x ∈ st, 0 ≤ x ∧ x < 16) : fitX t st = 0 ↔ ∀ p q, p < st.length → q < st.length → st.getD p 0 = st.getD q 0 := by
  obtain ⟨h1, ⟨a, ⟨ha1, ha2⟩, ha3⟩, h0⟩ := fit_law hc hk
  have hlen := treC_len hc
  have hup := (treC_par hc).2
  constructor
  · intro hz p q hp hq
    rw [hz, cst_at _ 16 a ha1 hup] at ha3
    have hall := sumZ_nil (fun i => by split <;> omega) ha3
    have hcon : ∀ i, i < t.par.length → a i = a 0 := by
      intro i
      induction i using Nat.strongRecOn with
      | _ i ih =>
        intro hi
        by_cases e : i = 0
        · rw [e]
        · have h2 := hall i hi
          have h3 := hup i (by omega) hi
          have h4 := ih (t.par.getD i 0).toNat (by omega) (by omega)
          by_cases e2 : a (t.par.getD i 0).toNat = a i
          · omega
          · rw [if_pos ⟨by omega, e2⟩] at h2;omega
    have key : ∀ p, p < st.length → st.getD p 0 = (a 0 : Int) := fun p hp => by
      obtain ⟨i, hi, _, hi3⟩ := knT_leaf (t := t) (st := st) p (by omega)
      have h5 := hpos _ (getD_mem st p 0 hp)
      rcases ha2 i (by omega) with h | h
      · omega
      · rw [← hi3, h, hcon i (by omega)]
    rw [key p hp, key q hq]
  · intro hall
    let x : Nat := (st.getD 0 0).toNat
    have hx : x < 16 := by
      show (st.getD 0 0).toNat < 16
      by_cases h : 0 < st.length
      · have := hpos _ (getD_mem st 0 0 h);omega
      · rw [getD_ge _ _ _ (by omega)]; decide
    have hf := h1 (fun _ => x) ⟨fun _ _ => hx, fun i hi => by
      unfold knT
      split
      · right
        have hr := idxOf_rng (lvs t) (i : Int)
        have hs : 0 < st.length := by omega
        rw [hall _ 0 (by omega) hs]
        have := hpos _ (getD_mem st 0 0 hs)
        show st.getD 0 0 = ((st.getD 0 0).toNat : Int)
        omega
      · left;omega⟩
    rw [cst_at _ 16 _ (fun _ _ => hx) hup, sumZ_zero (fun i _ => if_neg (fun h => h.2 rfl))] at hf
    omega
theorem fit_one {t : Tre} {st : List Int} (hc : treC t = 0) (hk : knwE st (lvs t).length (-1) 16 = 0) (hl : st.length = (lvs t).length) (hpos : ∀ x ∈ st, 0 ≤ x ∧ x < 16) (p0 q0 : Nat) (hp0 : p0 < st.length) (hq0 : q0 < st.length) (hne : st.getD p0 0 ≠ st.getD q0 0)
    (htwo : ∀ r, r < st.length → st.getD r 0 = st.getD p0 0 ∨ st.getD r 0 = st.getD q0 0) :
    fitX t st = 1 ↔ ∃ v, 0 < v ∧ v < t.par.length ∧ ∀ p q, p < st.length → q < st.length → (st.getD p 0 = st.getD q 0 ↔ sub33 t.par v ((lvs t).getD p 0).toNat = sub33 t.par v ((lvs t).getD q 0).toNat) := by
  obtain ⟨h1, ⟨a, ⟨ha1, ha2⟩, ha3⟩, h0⟩ := fit_law hc hk
  have hlen := treC_len hc
  have hup := (treC_par hc).2
  have hge : fitX t st ≠ 0 := fun h => hne ((fit_zero hc hk hl hpos).1 h p0 q0 hp0 hq0)
  have hst : ∀ (b : Nat → Nat), (∀ i, i < t.par.length → knT (lvs t) st i < 0 ∨ knT (lvs t) st i = (b i : Int)) → ∀ p, p < st.length → st.getD p 0 = (b ((lvs t).getD p 0).toNat : Int) ∧ ((lvs t).getD p 0).toNat < t.par.length := fun b hb p hp => by
    obtain ⟨i, hi, hi2, hi3⟩ := knT_leaf (t := t) (st := st) p (by omega)
    have h5 := hpos _ (getD_mem st p 0 hp)
    rw [hi2, Int.toNat_natCast]
    rcases hb i (by omega) with h | h
    · omega
    · exact ⟨by rw [← hi3, h], by omega⟩
  constructor
  · intro hone
    rw [hone, cst_at _ 16 a ha1 hup] at ha3
    obtain ⟨v, hv, hv1, hv2⟩ := sumZ_just (fun i => by split <;> simp) ha3
    have hvv : 0 < v ∧ a (t.par.getD v 0).toNat ≠ a v := by
      by_cases h : 0 < v ∧ a (t.par.getD v 0).toNat ≠ a v
      · exact h
      · rw [if_neg h] at hv1;omega
    have hcon : ∀ i, i < t.par.length → a i = if sub33 t.par v i = true then a v else a 0 := by
      intro i
      induction i using Nat.strongRecOn with
      | _ i ih =>
        intro hi
        by_cases e0 : i = 0
        · subst e0; rw [sub_less v 0 hvv.1, if_neg (by simp)]
        by_cases ev : i = v
        · subst ev; rw [sub_self, if_pos rfl]
        have h3 := hup i (by omega) hi
        have h4 := ih (t.par.getD i 0).toNat (by omega) (by omega)
        have h5 := hv2 i hi ev
        have h6 : a (t.par.getD i 0).toNat = a i := by
          by_cases e : a (t.par.getD i 0).toNat = a i
          · exact e
          · rw [if_pos ⟨by omega, e⟩] at h5;omega
        by_cases hlt : i < v
        · rw [sub_less v i hlt, if_neg (by simp)]
          rw [sub_less v _ (by omega), if_neg (by simp)] at h4
          omega
        · rw [sub_step hup v i hi (by omega), ← h6]
          exact h4
    have hpv : a (t.par.getD v 0).toNat = a 0 := by
      have h3 := hup v hvv.1 hv
      have := hcon (t.par.getD v 0).toNat (by omega)
      rwa [sub_less v _ (by omega), if_neg (by simp)] at this
    have hd : a v ≠ a 0 := fun h => hvv.2 (by rw [hpv, h])
    refine ⟨v, hvv.1, hv, fun p q hp hq => ?_⟩
    obtain ⟨e1, g1⟩ := hst a ha2 p hp
    obtain ⟨e2, g2⟩ := hst a ha2 q hq
    rw [e1, e2, hcon _ g1, hcon _ g2]
    cases sub33 t.par v ((lvs t).getD p 0).toNat <;> cases sub33 t.par v ((lvs t).getD q 0).toNat <;> simp <;> omega
  · rintro ⟨v, hv0, hv, hiff⟩
    have hs : sub33 t.par v ((lvs t).getD p0 0).toNat ≠ sub33 t.par v ((lvs t).getD q0 0).toNat := fun h => hne ((hiff p0 q0 hp0 hq0).2 h)
    have hx0 := hpos _ (getD_mem st p0 0 hp0)
    have hy0 := hpos _ (getD_mem st q0 0 hq0)
    let b : Nat → Nat := fun i => if sub33 t.par v i = sub33 t.par v ((lvs t).getD p0 0).toNat then (st.getD p0 0).toNat else (st.getD q0 0).toNat
    have hb : Fits33 t st b := by
      refine ⟨fun i _ => ?_, fun i hi => ?_⟩
      · show (if sub33 t.par v i = sub33 t.par v ((lvs t).getD p0 0).toNat then (st.getD p0 0).toNat else (st.getD q0 0).toNat) < 16
        split <;> omega
      · unfold knT
        split
        · right
          rename_i hx
          have hr := idxOf_rng (lvs t) (i : Int)
          obtain ⟨r, hr1, hr2, hr3⟩ := idxFrom_at2 (i : Int) (lvs t) 0 hx
          have e : Lib.idxOf (lvs t) (i : Int) = (r : Int) := by unfold Lib.idxOf; rw [hr1];omega
          rw [e, Int.toNat_natCast]
          have hrs : r < st.length := by omega
          have h6 := hiff r p0 hrs hp0
          have h7 := hiff r q0 hrs hq0
          rw [hr3, Int.toNat_natCast] at h6 h7
          show st.getD r 0 = ((if sub33 t.par v i = sub33 t.par v ((lvs t).getD p0 0).toNat then (st.getD p0 0).toNat else (st.getD q0 0).toNat : Nat) : Int)
          by_cases h8 : sub33 t.par v i = sub33 t.par v ((lvs t).getD p0 0).toNat
          · rw [if_pos h8, h6.2 h8];omega
          · rw [if_neg h8]
            rcases htwo r hrs with h9 | h9
            · exact absurd (h6.1 h9) h8
            · rw [h9];omega
        · left;omega
    have hle := h1 b hb
    rw [cst_at _ 16 b hb.1 hup] at hle
    have hsum : sumZ (fun i => if 0 < i ∧ b (t.par.getD i 0).toNat ≠ b i then 1 else 0) t.par.length ≤ 1 := by
      have h9 : sumZ (fun i => if 0 < i ∧ b (t.par.getD i 0).toNat ≠ b i then 1 else 0) t.par.length ≤ sumZ (fun i => if i = v then 1 else 0) t.par.length := by
        refine sumZ_le fun i hi => ?_
        by_cases e : i = v
        · rw [if_pos e]; split <;> omega
        · rw [if_neg e, if_neg]
          · omega
          rintro ⟨h2, h3⟩
          refine h3 ?_
          have h4 := hup i h2 hi
          have e5 : sub33 t.par v (t.par.getD i 0).toNat = sub33 t.par v i := by
            by_cases hlt : i < v
            · rw [sub_less v i hlt, sub_less v _ (by omega)]
            · exact (sub_step hup v i hi (by omega)).symm
          show (if sub33 t.par v (t.par.getD i 0).toNat = _ then _ else _) = (if sub33 t.par v i = _ then _ else _)
          rw [e5]
      rw [sumZ_one 1 v hv] at h9
      exact h9
    omega
end Go.Proofs.YtpknpbeiifjmgaaGreat
namespace Go.Proofs.YtpknpbeiifjmgaaGreat
open Go.RowKit
def difL {α : Type} [DecidableEq α] (f : Nat → α) (n : Nat) : List Nat := (List.range n).filter fun p => decide (f p ≠ f 0)
theorem difL_mem {α : Type} [DecidableEq α] (f : Nat → α) (n p : Nat) : p ∈ difL f n ↔ p < n ∧ f p ≠ f 0 := by
  unfold difL
  rw [List.mem_filter, List.mem_range, decide_eq_true_eq]
theorem leaf_sub {par : List Int} (hup : ∀ i, 0 < i → i < par.length → 0 ≤ par.getD i 0 ∧ par.getD i 0 < (i : Int)) (v : Nat) (hv : ∀ k, k < par.length → par.getD k 0 ≠ (v : Int)) : ∀ i, i < par.length → sub33 par v i = decide (i = v) := by
  intro i
  induction i using Nat.strongRecOn with
  | _ i ih =>
    intro hi
    rcases Nat.lt_trichotomy i v with h | h | h
    · rw [sub_less v i h, decide_eq_false (by omega)]
    · subst h; rw [sub_self, decide_eq_true rfl]
    · have h3 := hup i (by omega) hi
      have h4 := hv i hi
      rw [sub_step hup v i hi h, ih _ (by omega) (by omega), decide_eq_false (by omega), decide_eq_false (by omega)]
theorem lvs_leaf {t : Tre} (hc : treC t = 0) (p : Nat) (hp : p < (lvs t).length) : ∃ v : Nat, v < t.par.length ∧ (lvs t).getD p 0 = (v : Int) ∧ ∀ k, k < t.par.length → t.par.getD k 0 ≠ (v : Int) := by
  obtain ⟨v, h1, h2⟩ := lvs_rng2 t p hp
  have hl := treC_len hc
  have hm : (v : Int) ∈ lvs t := by rw [← h1, getD_lt _ _ _ hp]; exact List.getElem_mem _
  refine ⟨v, by omega, h1, fun k hk e => ?_⟩
  have h3 := lvs_mem hm
  exact h3.2 ((treC_leaf hc v (by omega)).2 (anyN_hit hk (decide_eq_true e)))
theorem leaf_pos {t : Tre} (hc : treC t = 0) (p : Nat) (hp : p < (lvs t).length) (h2 : 2 ≤ (lvs t).length) : ∃ v : Nat, 0 < v ∧ v < t.par.length ∧ (lvs t).getD p 0 = (v : Int) ∧ ∀ k, k < t.par.length → t.par.getD k 0 ≠ (v : Int) := by
  obtain ⟨v, h3, h4, h5⟩ := lvs_leaf hc p hp
  refine ⟨v, ?_, h3, h4, h5⟩
  by_cases h0 : v = 0
  · exfalso
    obtain ⟨q, hq, hqp⟩ : ∃ q, q < (lvs t).length ∧ q ≠ p := by
      by_cases e : p = 0
      · exact ⟨1, by omega, by omega⟩
      · exact ⟨0, by omega, by omega⟩
    obtain ⟨v2, h6, h7, _⟩ := lvs_leaf hc q hq
    have h8 : v2 ≠ 0 := fun e => hqp (by
      have e1 := (lvs_idx2 t q hq 0).2 (by rw [h7, e]; rfl)
      have e2 := (lvs_idx2 t p hp 0).2 (by rw [h4, h0]; rfl)
      omega)
    have h9 := (treC_par hc).2 1 (by omega) (by omega)
    exact h5 1 (by omega) (by omega)
  · omega
theorem lvs_inj {t : Tre} (p q : Nat) (hp : p < (lvs t).length) (hq : q < (lvs t).length) (h : (lvs t).getD p 0 = (lvs t).getD q 0) : p = q := by
  have e1 := (lvs_idx2 t p hp ((lvs t).getD q 0)).2 h
  have e2 := (lvs_idx2 t q hq ((lvs t).getD q 0)).2 rfl
  omega
theorem split_law {t : Tre} {st : List Int} (hc : treC t = 0) (hk : knwE st (lvs t).length (-1) 16 = 0) (hl : st.length = (lvs t).length) (hpos : ∀ x ∈ st, 0 ≤ x ∧ x < 16) (q0 : Nat) (hq0 : q0 < st.length) (hne : st.getD 0 0 ≠ st.getD q0 0)
    (htwo : ∀ r, r < st.length → st.getD r 0 = st.getD 0 0 ∨ st.getD r 0 = st.getD q0 0) :
    fitX t st = 1 ↔ ((difL (fun p => st.getD p 0) st.length).length < 2 ∨ st.length - 2 < (difL (fun p => st.getD p 0) st.length).length) ∨
      ∃ v, 0 < v ∧ v < t.par.length ∧ difL (fun p => sub33 t.par v ((lvs t).getD p 0).toNat) st.length = difL (fun p => st.getD p 0) st.length := by
  have hup := (treC_par hc).2
  have hq1 : q0 ≠ 0 := fun h => hne (by rw [h])
  rw [fit_one hc hk hl hpos 0 q0 (by omega) hq0 hne htwo]
  constructor
  · rintro ⟨v, h1, h2, h3⟩
    refine .inr ⟨v, h1, h2, List.filter_congr fun p hp => ?_⟩
    rw [List.mem_range] at hp
    have := h3 p 0 hp (by omega)
    rw [decide_eq_decide]
    exact not_congr this.symm
  · intro h
    -- a node whose side of the tree is the class suffices
    have key : ∀ v, 0 < v → v < t.par.length → (∀ p, p < st.length → (st.getD p 0 = st.getD 0 0 ↔ sub33 t.par v ((lvs t).getD p 0).toNat = sub33 t.par v ((lvs t).getD 0 0).toNat)) → ∃ v, 0 < v ∧ v < t.par.length ∧ ∀ p q, p < st.length → q < st.length → (st.getD p 0 = st.getD q 0 ↔ sub33 t.par v ((lvs t).getD p 0).toNat = sub33 t.par v ((lvs t).getD q 0).toNat) := fun v h1 h2 h3 => by
      refine ⟨v, h1, h2, fun p q hp hq => ?_⟩
      have hp3 := h3 p hp
      have hq3 := h3 q hq
      have hpt := htwo p hp
      have hqt := htwo q hq
      by_cases e1 : st.getD p 0 = st.getD 0 0
      · rw [e1, hp3.1 e1]
        exact ⟨fun e => (hq3.1 e.symm).symm, fun e => (hq3.2 e.symm).symm⟩
      · have e1' := hpt.resolve_left e1
        by_cases e2 : st.getD q 0 = st.getD 0 0
        · rw [e2, hq3.1 e2]
          exact hp3
        · have e2' := hqt.resolve_left e2
          have n1 := fun e => e1 (hp3.2 e)
          have n2 := fun e => e2 (hq3.2 e)
          constructor
          · intro _
            revert n1 n2
            cases sub33 t.par v ((lvs t).getD p 0).toNat <;> cases sub33 t.par v ((lvs t).getD q 0).toNat <;> cases sub33 t.par v ((lvs t).getD 0 0).toNat <;> simp
          · intro _
            rw [e1', e2']
    rcases h with h | ⟨v, h1, h2, h3⟩
    rotate_left
    · refine key v h1 h2 fun p hp => ?_
      have hm1 := difL_mem (fun p => sub33 t.par v ((lvs t).getD p 0).toNat) st.length p
      have hm2 := difL_mem (fun p => st.getD p 0) st.length p
      rw [h3, hm2] at hm1
      constructor
      · intro e
        by_cases e2 : sub33 t.par v ((lvs t).getD p 0).toNat = sub33 t.par v ((lvs t).getD 0 0).toNat
        · exact e2
        · exact absurd e (hm1.2 ⟨hp, e2⟩).2
      · intro e
        by_cases e2 : st.getD p 0 = st.getD 0 0
        · exact e2
        · exact absurd e (hm1.1 ⟨hp, e2⟩).2
    -- one place stands alone
    have alone : ∀ p, p < st.length → (∀ q, q < st.length → (st.getD q 0 = st.getD 0 0 ↔ ((q = p) ↔ (0 = p)))) → ∃ v, 0 < v ∧ v < t.par.length ∧ ∀ p q, p < st.length → q < st.length → (st.getD p 0 = st.getD q 0 ↔ sub33 t.par v ((lvs t).getD p 0).toNat = sub33 t.par v ((lvs t).getD q 0).toNat) := fun p hp hiff => by
      obtain ⟨v, h1, h2, h3, h4⟩ := leaf_pos hc p (by omega) (by omega)
      refine key v h1 h2 fun q hq => ?_
      have hsub : ∀ r, r < st.length → sub33 t.par v ((lvs t).getD r 0).toNat = decide (r = p) := fun r hr => by
        obtain ⟨u, hu, hu2, _⟩ := lvs_leaf hc r (by omega)
        rw [hu2, Int.toNat_natCast, leaf_sub hup v h4 u hu, decide_eq_decide]
        constructor
        · intro e; exact lvs_inj (t := t) r p (by omega) (by omega) (by rw [hu2, h3, e])
        · intro e; subst e;omega
      rw [hsub q hq, hsub 0 (by omega), hiff q hq, decide_eq_decide]
    have hmemq : q0 ∈ difL (fun p => st.getD p 0) st.length := (difL_mem _ _ _).2 ⟨hq0, fun e => hne e.symm⟩
    rcases h with h | h
    · -- the other state has one leaf
      have hone : difL (fun p => st.getD p 0) st.length = [q0] := by
        cases hd : difL (fun p => st.getD p 0) st.length with
        | nil => rw [hd] at hmemq; cases hmemq
        | cons x l =>
          cases l with
          | nil => rw [hd, List.mem_singleton] at hmemq; rw [hmemq]
          | cons y l => rw [hd] at h; simp at h;omega
      refine alone q0 hq0 fun q hq => ?_
      have hm := difL_mem (fun p => st.getD p 0) st.length q
      rw [hone, List.mem_singleton] at hm
      constructor
      · intro e
        constructor
        · intro e2; exact absurd e (hm.1 e2).2
        · intro e2; exact absurd e2.symm hq1
      · intro e
        by_cases e2 : st.getD q 0 = st.getD 0 0
        · exact e2
        · exact absurd (e.1 (hm.2 ⟨hq, e2⟩)).symm hq1
    · -- the first state has one leaf
      refine alone 0 (by omega) fun q hq => ?_
      constructor
      · intro e
        have hq00 : q = 0 := by
          refine Classical.byContradiction fun hq00 => ?_
          have hsubl : (difL (fun p => st.getD p 0) st.length).length ≤ ((List.range st.length).filter fun p => decide (p ≠ 0 ∧ p ≠ q)).length := by
            have hff : difL (fun p => st.getD p 0) st.length = ((List.range st.length).filter fun p => decide (p ≠ 0 ∧ p ≠ q)).filter (fun p => decide (st.getD p 0 ≠ st.getD 0 0)) := by
              unfold difL
              rw [List.filter_filter]
              refine List.filter_congr fun x _ => ?_
              rw [← Bool.decide_and, decide_eq_decide]
              refine ⟨fun h2 => ⟨h2, fun e2 => h2 (by rw [e2]), fun e2 => h2 (by rw [e2]; exact e)⟩, fun h2 => h2.1⟩
            rw [hff]
            exact List.length_filter_le _ _
          have hcnt : ((List.range st.length).filter fun p => decide (p ≠ 0 ∧ p ≠ q)).length + 2 ≤ st.length := by
            have h3 : ((List.range st.length).filter fun p => decide (p ≠ 0 ∧ p ≠ q)) = ((List.range st.length).erase 0).erase q := by
              rw [List.Nodup.erase_eq_filter List.nodup_range, List.Nodup.erase_eq_filter (List.Pairwise.filter _ List.nodup_range), List.filter_filter]
              refine List.filter_congr fun p _ => ?_
              by_cases a : p = 0 <;> by_cases b : p = q <;> simp [a, b]
            rw [h3]
            have h4 : 0 ∈ List.range st.length := List.mem_range.2 (by omega)
            have h5 : q ∈ (List.range st.length).erase 0 := (List.mem_erase_of_ne hq00).2 (List.mem_range.2 hq)
            rw [List.length_erase_of_mem h5, List.length_erase_of_mem h4, List.length_range]
            omega
          omega
        exact ⟨fun _ => rfl, fun _ => hq00⟩
      · intro e
        rw [e.2 rfl]
end Go.Proofs.YtpknpbeiifjmgaaGreat
namespace Go.Proofs.YtpknpbeiifjmgaaGreat
open Go.RowKit
section
variable {par : List Int} (hup : ∀ i, 0 < i → i < par.length → 0 ≤ par.getD i 0 ∧ par.getD i 0 < (i : Int))
include hup
theorem sub_child (v : Nat) : ∀ i, i < par.length → v < i → (sub33 par v i = true ↔ ∃ k, k < par.length ∧ v < k ∧ par.getD k 0 = (v : Int) ∧ sub33 par k i = true) := by
  intro i
  induction i using Nat.strongRecOn with
  | _ i ih =>
    intro hi hv
    have h3 := hup i (by omega) hi
    rw [sub_step hup v i hi hv]
    rcases Nat.lt_trichotomy (par.getD i 0).toNat v with h | h | h
    · rw [sub_less v _ h]
      constructor
      · intro e; cases e
      · rintro ⟨k, hk, hvk, hpk, hs⟩
        by_cases e : k = i
        · subst e;omega
        · by_cases hlt : i < k
          · rw [sub_less k i hlt] at hs; cases hs
          · rw [sub_step hup k i hi (by omega), sub_less k _ (by omega)] at hs; cases hs
    · rw [h, sub_self]
      exact ⟨fun _ => ⟨i, hi, hv, by omega, sub_self i⟩, fun _ => rfl⟩
    · rw [ih _ (by omega) (by omega) h]
      constructor
      · rintro ⟨k, hk, hvk, hpk, hs⟩
        have hle : k ≤ (par.getD i 0).toNat := Nat.le_of_not_lt fun hlt => by rw [sub_less k _ hlt] at hs; cases hs
        exact ⟨k, hk, hvk, hpk, by rw [sub_step hup k i hi (by omega)]; exact hs⟩
      · rintro ⟨k, hk, hvk, hpk, hs⟩
        by_cases e : k = i
        · subst e;omega
        · by_cases hlt : i < k
          · rw [sub_less k i hlt] at hs; cases hs
          · rw [sub_step hup k i hi (by omega)] at hs
            exact ⟨k, hk, hvk, hpk, hs⟩
theorem sub_apart (v k l : Nat) (hk : par.getD k 0 = (v : Int)) (hl : par.getD l 0 = (v : Int)) (hvk : v < k) (hkl : k < l) : ∀ i, i < par.length → sub33 par k i = true → sub33 par l i = true → False := by
  intro i
  induction i using Nat.strongRecOn with
  | _ i ih =>
    intro hi h1 h2
    rcases Nat.lt_trichotomy i l with h | h | h
    · rw [sub_less l i h] at h2; cases h2
    · subst h
      rw [sub_step hup k i hi hkl, hl, Int.toNat_natCast, sub_less k v hvk] at h1
      cases h1
    · have h3 := hup i (by omega) hi
      rw [sub_step hup k i hi (by omega)] at h1
      rw [sub_step hup l i hi h] at h2
      exact ih _ (by omega) (by omega) h1 h2
end
def belL (t : Tre) (v : Nat) : List Int := ((List.range (lvs t).length).filter fun p => sub33 t.par v ((lvs t).getD p 0).toNat).map fun p : Nat => (p : Int)
theorem belL_mem (t : Tre) (v : Nat) (x : Int) : x ∈ belL t v ↔ ∃ p : Nat, p < (lvs t).length ∧ sub33 t.par v ((lvs t).getD p 0).toNat = true ∧ x = (p : Int) := by
  unfold belL
  rw [List.mem_map]
  constructor
  · rintro ⟨p, hp, rfl⟩
    rw [List.mem_filter, List.mem_range] at hp
    exact ⟨p, hp.1, hp.2, rfl⟩
  · rintro ⟨p, h1, h2, rfl⟩
    exact ⟨p, List.mem_filter.2 ⟨List.mem_range.2 h1, h2⟩, rfl⟩
theorem belL_asc (t : Tre) (v : Nat) : (belL t v).Pairwise (· < ·) := by
  unfold belL
  rw [List.pairwise_map]
  exact (List.Pairwise.filter _ List.pairwise_lt_range).imp (fun h => by omega)
def gatL (t : Tre) (v : Nat) : Nat → List Int
  | 0 => []
  | k + 1 => gatL t v k ++ if t.par.getD k 0 = (v : Int) then belL t k else []
theorem gatL_mem (t : Tre) (v : Nat) (x : Int) : ∀ k, x ∈ gatL t v k ↔ ∃ j, j < k ∧ t.par.getD j 0 = (v : Int) ∧ x ∈ belL t j
  | 0 => by simp [gatL]
  | k + 1 => by
    rw [gatL, List.mem_append, gatL_mem t v x k]
    constructor
    · rintro (⟨j, h1, h2, h3⟩ | h)
      · exact ⟨j, by omega, h2, h3⟩
      · split at h
        · rename_i e; exact ⟨k, by omega, e, h⟩
        · cases h
    · rintro ⟨j, h1, h2, h3⟩
      by_cases e : j = k
      · subst e; right; rw [if_pos h2]; exact h3
      · exact .inl ⟨j, by omega, h2, h3⟩
theorem gatL_nodup {t : Tre} (hc : treC t = 0) (v : Nat) : ∀ k, k ≤ t.par.length → (gatL t v k).Nodup
  | 0, _ => List.nodup_nil
  | k + 1, hk => by
    have hup := (treC_par hc).2
    have hlen := treC_len hc
    rw [gatL, List.nodup_append]
    refine ⟨gatL_nodup hc v k (by omega), ?_, fun a ha b hb => ?_⟩
    · split
      · exact (belL_asc t k).imp (fun h => by omega)
      · exact List.nodup_nil
    · rintro rfl
      split at hb
      rotate_left
      · cases hb
      rename_i e
      obtain ⟨j, h1, h2, h3⟩ := (gatL_mem t v a k).1 ha
      obtain ⟨p, hp, hp2, e1⟩ := (belL_mem t j a).1 h3
      obtain ⟨q, hq, hq2, e2⟩ := (belL_mem t k a).1 hb
      obtain rfl : p = q := by omega
      obtain ⟨u, hu, hu2⟩ := lvs_rng2 t p hp
      rw [hu, Int.toNat_natCast] at hp2 hq2
      have hj0 : 0 < j := Nat.pos_of_ne_zero fun e0 => by
        have := (treC_par hc).1
        rw [e0] at h2;omega
      have := hup j hj0 (by omega)
      exact sub_apart hup v j k h2 e (by omega) h1 u (by omega) hp2 hq2
theorem gat_bel {t : Tre} (hc : treC t = 0) (v : Nat) (hv : v < t.par.length) (hin : inn t v = true) : srtL (gatL t v t.par.length) = belL t v := by
  have hup := (treC_par hc).2
  have hlen := treC_len hc
  refine asc_ext _ _ (asc_of_le _ (srtL_le _) ((srtL_perm _).nodup_iff.2 (gatL_nodup hc v _ (Nat.le_refl _)))) (belL_asc t v) fun x => ?_
  rw [srtL_mem, gatL_mem, belL_mem]
  have hne : ∀ p, p < (lvs t).length → ∃ u : Nat, (lvs t).getD p 0 = (u : Int) ∧ u < t.par.length ∧ u ≠ v := fun p hp => by
    obtain ⟨u, h1, h2, h3⟩ := lvs_leaf hc p hp
    refine ⟨u, h2, h1, fun e => ?_⟩
    have : t.names.getD u ByteArray.empty = ByteArray.empty := (treC_leaf hc u h1).2 (by rw [e]; exact hin)
    have hm : (u : Int) ∈ lvs t := by rw [← h2, getD_lt _ _ _ hp]; exact List.getElem_mem _
    exact (lvs_mem hm).2 this
  constructor
  · rintro ⟨j, h1, h2, h3⟩
    obtain ⟨p, hp, hp2, e1⟩ := (belL_mem t j x).1 h3
    refine ⟨p, hp, ?_, e1⟩
    obtain ⟨u, hu, hu2, hu3⟩ := hne p hp
    rw [hu, Int.toNat_natCast] at hp2 ⊢
    have hj0 : 0 < j := Nat.pos_of_ne_zero fun e0 => by
      have := (treC_par hc).1
      rw [e0] at h2;omega
    have h4 := hup j hj0 h1
    have hju : j ≤ u := Nat.le_of_not_lt fun hlt => by rw [sub_less j u hlt] at hp2; cases hp2
    exact (sub_child hup v u hu2 (by omega)).2 ⟨j, h1, by omega, h2, hp2⟩
  · rintro ⟨p, hp, hp2, e1⟩
    obtain ⟨u, hu, hu2, hu3⟩ := hne p hp
    have hp3 := hp2
    rw [hu, Int.toNat_natCast] at hp3
    have hvu : v < u := by
      rcases Nat.lt_trichotomy u v with h | h | h
      · rw [sub_less v u h] at hp3; cases hp3
      · exact absurd h hu3
      · exact h
    obtain ⟨k, hk, hvk, hpk, hs⟩ := (sub_child hup v u hu2 hvu).1 hp3
    exact ⟨k, hk, hpk, (belL_mem t k x).2 ⟨p, hp, by rw [hu, Int.toNat_natCast]; exact hs, e1⟩⟩
theorem bel_leaf {t : Tre} (hc : treC t = 0) (p : Nat) (hp : p < (lvs t).length) (v : Nat) (hv : (lvs t).getD p 0 = (v : Int)) : belL t v = [(p : Int)] := by
  have hup := (treC_par hc).2
  obtain ⟨v2, h1, h2, h3⟩ := lvs_leaf hc p hp
  obtain rfl : v2 = v := by omega
  refine asc_ext _ _ (belL_asc t v2) (List.pairwise_singleton _ _) fun x => ?_
  rw [belL_mem, List.mem_singleton]
  constructor
  · rintro ⟨q, hq, hs, rfl⟩
    obtain ⟨u, hu, hu2, _⟩ := lvs_leaf hc q hq
    rw [hu2, Int.toNat_natCast, leaf_sub hup v2 h3 u hu, decide_eq_true_eq] at hs
    have := lvs_inj (t := t) q p hq hp (by rw [hu2, h2, hs])
    rw [this]
  · rintro rfl
    exact ⟨p, hp, by rw [h2, Int.toNat_natCast]; exact sub_self v2, rfl⟩
theorem bel_has (t : Tre) (v p : Nat) (hp : p < (lvs t).length) : hasI (belL t v) (p : Int) = sub33 t.par v ((lvs t).getD p 0).toNat := by
  refine Bool.eq_iff_iff.2 ?_
  unfold hasI
  rw [List.contains_iff_mem, belL_mem]
  constructor
  · rintro ⟨q, _, hs, e⟩
    obtain rfl : q = p := by omega
    exact hs
  · intro h; exact ⟨p, hp, h, rfl⟩
def nrmL (t : Tre) (v : Nat) : List Int := if hasI (belL t v) 0 = true then ((List.range (lvs t).length).filter fun p : Nat => !hasI (belL t v) (p : Int)).map (fun p : Nat => (p : Int)) else belL t v
theorem nrm_dif (t : Tre) (v : Nat) (h0 : 0 < (lvs t).length) : nrmL t v = (difL (fun p => sub33 t.par v ((lvs t).getD p 0).toNat) (lvs t).length).map (fun p : Nat => (p : Int)) := by
  have e0 := bel_has t v 0 h0
  rw [Int.natCast_zero] at e0
  unfold nrmL
  rw [e0]
  by_cases h : sub33 t.par v ((lvs t).getD 0 0).toNat = true
  · rw [if_pos h]
    congr 1
    unfold difL
    refine List.filter_congr fun p hp => ?_
    rw [List.mem_range] at hp
    rw [bel_has t v p hp]
    show _ = decide (sub33 t.par v ((lvs t).getD p 0).toNat ≠ sub33 t.par v ((lvs t).getD 0 0).toNat)
    rw [h]
    cases sub33 t.par v ((lvs t).getD p 0).toNat <;> rfl
  · rw [if_neg h]
    unfold belL
    congr 1
    unfold difL
    refine List.filter_congr fun p hp => ?_
    have h' : sub33 t.par v ((lvs t).getD 0 0).toNat = false := by simpa using h
    show _ = decide (sub33 t.par v ((lvs t).getD p 0).toNat ≠ sub33 t.par v ((lvs t).getD 0 0).toNat)
    rw [h']
    cases sub33 t.par v ((lvs t).getD p 0).toNat <;> rfl
end Go.Proofs.YtpknpbeiifjmgaaGreat
namespace Go.Proofs.YtpknpbeiifjmgaaGreat
open Go.RowKit
def nmT (t : Tre) : List ByteArray := (lvs t).map fun x => t.names.getD x.toNat ByteArray.empty
theorem nmT_len (t : Tre) : (nmT t).length = (lvs t).length := by simp [nmT]
theorem nmT_at (t : Tre) (p v : Nat) (hp : p < (lvs t).length) (hv : (lvs t).getD p 0 = (v : Int)) : (nmT t).getD p ByteArray.empty = t.names.getD v ByteArray.empty := by
  rw [getD_lt _ _ _ (by rw [nmT_len]; exact hp)]
  simp only [nmT, List.getElem_map]
  rw [getD_lt _ _ _ hp] at hv
  rw [hv]
  rfl
theorem leaf_names {t : Tre} (hc : treC t = 0) (u v : Nat) (huv : u < v) (hv : v < t.par.length) (hlv : inn t v = false) : t.names.getD u ByteArray.empty ≠ t.names.getD v ByteArray.empty := by
  obtain ⟨_, _, hln, _, hn⟩ := treC_len hc
  have h := hn v hv
  unfold namE at h
  rw [if_neg (by rw [hlv]; simp)] at h
  split at h
  · omega
  split at h
  · omega
  rename_i h1 h2
  intro e
  refine h2 ?_
  rw [Lib.containsS_iff]
  have hm : t.names.getD v ByteArray.empty ∈ t.names.take v := by
    rw [← e, getD_lt _ _ _ (by omega)]
    exact List.mem_take_iff_getElem.2 ⟨u, by omega, rfl⟩
  exact hm
theorem nmT_idx {t : Tre} (hc : treC t = 0) (p v : Nat) (hp : p < (lvs t).length) (hv : (lvs t).getD p 0 = (v : Int)) : Lib.idxOfS (nmT t) (t.names.getD v ByteArray.empty) = (p : Int) := by
  unfold Lib.idxOfS
  have h1 := nmT_at t p v hp hv
  obtain ⟨_, _, hln, _, _⟩ := treC_len hc
  have hz := Lib.idxFromS_hit (t.names.getD v ByteArray.empty) (nmT t) p 0 (by rw [nmT_len]; exact hp) h1 (fun j hj => by
    obtain ⟨u, hu, hu2, _⟩ := lvs_leaf hc j (by omega)
    rw [nmT_at t j u (by omega) hu2]
    obtain ⟨v2, hv2, hv3, hv4⟩ := lvs_leaf hc p hp
    obtain rfl : v2 = v := by omega
    have hasc := List.pairwise_iff_getElem.1 (lvs_asc2 t) j p (by omega) hp hj
    rw [getD_lt _ _ _ (by omega)] at hu2 hv
    refine leaf_names hc u v2 (by omega) hv2 ?_
    unfold inn inK anyN
    rw [List.any_eq_false]
    intro k hk
    have := hv4 k (List.mem_range.1 hk)
    simpa using this)
  rw [hz]
  simp
theorem inn_false {t : Tre} {v : Nat} (h : inn t v = false) : ∀ k, k < t.par.length → t.par.getD k 0 ≠ (v : Int) := by
  unfold inn inK anyN at h
  rw [List.any_eq_false] at h
  intro k hk e
  have := h k (List.mem_range.2 hk)
  rw [e] at this
  simp at this
theorem inn_true {t : Tre} {v : Nat} (h : inn t v = true) : ∃ k, k < t.par.length ∧ t.par.getD k 0 = (v : Int) := by
  unfold inn inK anyN at h
  rw [List.any_eq_true] at h
  obtain ⟨k, hk, e⟩ := h
  exact ⟨k, List.mem_range.1 hk, by simpa using e⟩
theorem leaf_place {t : Tre} (hc : treC t = 0) (v : Nat) (hv : v < t.par.length) (hi : inn t v = false) : ∃ p, p < (lvs t).length ∧ (lvs t).getD p 0 = (v : Int) := by
  obtain ⟨_, _, hln, _, hn⟩ := treC_len hc
  have h := hn v hv
  unfold namE at h
  rw [if_neg (by rw [hi]; simp)] at h
  have hne : t.names.getD v ByteArray.empty ≠ ByteArray.empty := by
    intro e
    rw [e] at h
    split at h
    · omega
    · rename_i h1
      exact h1 (by decide)
  have hm : (v : Int) ∈ lvs t := by
    unfold lvs lvL
    rw [List.mem_map]
    exact ⟨v, by rw [List.mem_filter, List.mem_range]; exact ⟨by omega, by simpa using hne⟩, rfl⟩
  obtain ⟨p, hp, e⟩ := List.getElem_of_mem hm
  exact ⟨p, hp, by rw [getD_lt _ _ _ hp]; exact e⟩
theorem gatL_leaf {t : Tre} {v : Nat} (hi : inn t v = false) : ∀ k, k ≤ t.par.length → gatL t v k = []
  | 0, _ => rfl
  | k + 1, hk => by rw [gatL, gatL_leaf hi k (by omega), if_neg (inn_false hi k (by omega))]; rfl
theorem belL_ne {t : Tre} (hc : treC t = 0) : ∀ m v, v + m = t.par.length → 0 < m → belL t v ≠ [] := by
  intro m
  induction m using Nat.strongRecOn with
  | ind m ih =>
    intro v hv h0
    cases hi : inn t v with
    | false =>
      obtain ⟨p, hp, e⟩ := leaf_place hc v (by omega) hi
      rw [bel_leaf hc p hp v e]
      simp
    | true =>
      obtain ⟨k, hk, e⟩ := inn_true hi
      have hup := (treC_par hc)
      have hkv : v < k := by
        rcases Nat.eq_zero_or_pos k with rfl | h
        · rw [hup.1] at e;omega
        · have := (hup.2 k h hk).2;omega
      have h1 := ih (t.par.length - k) (by omega) k (by omega) (by omega)
      rw [← gat_bel hc v (by omega) hi]
      intro h2
      obtain ⟨x, hx⟩ := List.exists_mem_of_ne_nil _ h1
      have : x ∈ srtL (gatL t v t.par.length) := (srtL_mem _ _).2 ((gatL_mem t v x _).2 ⟨k, hk, e, hx⟩)
      rw [h2] at this
      cases this
theorem gatL_ne {t : Tre} (hc : treC t = 0) (v : Nat) (hv : v < t.par.length) (hi : inn t v = true) : gatL t v t.par.length ≠ [] := by
  intro h
  have h1 := gat_bel hc v hv hi
  rw [h] at h1
  exact belL_ne hc (t.par.length - v) v (by omega) (by omega) (h1.symm.trans (by apply List.eq_nil_of_length_eq_zero; rw [(srtL_perm []).length_eq]; rfl))
theorem gatL_len {t : Tre} (hc : treC t = 0) (v : Nat) : ∀ k, k ≤ t.par.length → (gatL t v k).length ≤ (lvs t).length := fun k hk => by
  have h1 := gatL_nodup hc v k hk
  have h2 : ∀ x ∈ gatL t v k, x ∈ (List.range (lvs t).length).map (fun p : Nat => (p : Int)) := fun x hx => by
    obtain ⟨j, _, _, h3⟩ := (gatL_mem t v x k).1 hx
    obtain ⟨p, hp, _, rfl⟩ := (belL_mem t j x).1 h3
    exact List.mem_map.2 ⟨p, List.mem_range.2 hp, rfl⟩
  have h4 : (srtL (gatL t v k)).Pairwise (· < ·) := asc_of_le _ (srtL_le _) ((srtL_perm _).nodup_iff.2 h1)
  have h5 := asc_len _ h4 (lvs t).length (fun x hx => by
    obtain ⟨p, hp, e⟩ := List.mem_map.1 (h2 x ((srtL_mem _ _).1 hx))
    have := List.mem_range.1 hp
    omega)
  rwa [(srtL_perm _).length_eq] at h5
theorem lvs_few (t : Tre) : (lvs t).length ≤ t.names.length := by
  unfold lvs lvL
  rw [List.length_map]
  have := List.length_filter_le (fun i => decide (t.names.getD i ByteArray.empty ≠ ByteArray.empty)) (List.range t.names.length)
  rwa [List.length_range] at this
end Go.Proofs.YtpknpbeiifjmgaaGreat
