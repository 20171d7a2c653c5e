/-
  Part 10 of the proof: Pm33, Dat, Reb. No statement of the seat is proved here.
-/
import Derived.Test.YtpknpbeiifjmgaaGreatMHPs339
namespace Go.Proofs.YtpknpbeiifjmgaaGreat
def sumZ (f : Nat → Int) : Nat → Int
  | 0 => 0
  | k + 1 => sumZ f k + f k
theorem sumZ_congr {f g : Nat → Int} : ∀ {n : Nat}, (∀ i, i < n → f i = g i) → sumZ f n = sumZ g n
  | 0, _ => rfl
  | n + 1, h => by rw [sumZ, sumZ, sumZ_congr (fun i hi => h i (by omega)), h n (by omega)]
theorem sumZ_add (f g : Nat → Int) : ∀ n : Nat, sumZ (fun i => f i + g i) n = sumZ f n + sumZ g n
  | 0 => rfl
  | n + 1 => by rw [sumZ, sumZ, sumZ, sumZ_add f g n];omega
theorem sumZ_zero {f : Nat → Int} : ∀ {n : Nat}, (∀ i, i < n → f i = 0) → sumZ f n = 0
  | 0, _ => rfl
  | n + 1, h => by rw [sumZ, sumZ_zero (fun i hi => h i (by omega)), h n (by omega)]; rfl
theorem sumZ_nonneg {f : Nat → Int} : ∀ {n : Nat}, (∀ i, i < n → 0 ≤ f i) → 0 ≤ sumZ f n
  | 0, _ => Int.le_refl _
  | n + 1, h => by
    have := sumZ_nonneg (n := n) (fun i hi => h i (by omega))
    have := h n (by omega)
    rw [sumZ];omega
theorem sumZ_one (x : Int) (k : Nat) : ∀ {n : Nat}, k < n → sumZ (fun i => if i = k then x else 0) n = x
  | 0, h => absurd h (by omega)
  | n + 1, h => by
    rw [sumZ]
    by_cases e : n = k
    · rw [if_pos e, sumZ_zero (fun i hi => if_neg (by omega))];omega
    · rw [if_neg e, sumZ_one x k (by omega)];omega
def minC (c : Nat → Int) (row : List Int) : Nat → Int × Int
  | 0 => (-1, 0)
  | k + 1 => if row.getD k 0 < 0 then minC c row k else if (minC c row k).1 < 0 ∨ c k + row.getD k 0 < (minC c row k).1 then (c k + row.getD k 0, (k : Int)) else minC c row k
theorem minC_spec (c : Nat → Int) (hc : ∀ j, 0 ≤ c j) (row : List Int) : ∀ k : Nat,
    (((minC c row k).1 = -1 ∧ ∀ j, j < k → row.getD j 0 < 0) ∨ (∃ q : Nat, q < k ∧ (minC c row k).2 = (q : Int) ∧ 0 ≤ row.getD q 0 ∧ (minC c row k).1 = c q + row.getD q 0)) ∧
    ∀ j, j < k → 0 ≤ row.getD j 0 → 0 ≤ (minC c row k).1 ∧ (minC c row k).1 ≤ c j + row.getD j 0
  | 0 => ⟨.inl ⟨rfl, fun j hj => absurd hj (by omega)⟩, fun j hj => absurd hj (by omega)⟩
  | k + 1 => by
    obtain ⟨h1, h2⟩ := minC_spec c hc row k
    have hck := hc k
    unfold minC
    by_cases hn : row.getD k 0 < 0
    · rw [if_pos hn]
      refine ⟨?_, fun j hj h0 => ?_⟩
      · rcases h1 with ⟨a, b⟩ | ⟨q, a, b, d, e⟩
        · refine .inl ⟨a, fun j hj => ?_⟩
          by_cases e : j = k
          · rw [e]; exact hn
          · exact b j (by omega)
        · exact .inr ⟨q, by omega, b, d, e⟩
      · by_cases e : j = k
        · subst e;omega
        · exact h2 j (by omega) h0
    · rw [if_neg hn]
      by_cases hl : (minC c row k).1 < 0 ∨ c k + row.getD k 0 < (minC c row k).1
      · rw [if_pos hl]
        refine ⟨.inr ⟨k, by omega, rfl, by omega, rfl⟩, fun j hj h0 => ⟨by show 0 ≤ c k + row.getD k 0;omega, ?_⟩⟩
        show c k + row.getD k 0 ≤ _
        by_cases e : j = k
        · subst e; exact Int.le_refl _
        · have := h2 j (by omega) h0
          omega
      · rw [if_neg hl]
        refine ⟨?_, fun j hj h0 => ?_⟩
        · rcases h1 with ⟨a, b⟩ | ⟨q, a, b, d, e⟩
          · exact absurd (.inl (by omega)) hl
          · exact .inr ⟨q, by omega, b, d, e⟩
        · by_cases e : j = k
          · subst e;omega
          · exact h2 j (by omega) h0
section
variable (c : Nat → Nat → Int) (par : List Int) (kn : Nat → Int) (S : Nat)
def numV (T : Nat → List Int) (node s : Nat) : Int :=
  (if 0 ≤ kn node ∧ kn node ≠ (s : Int) then -1 else 0) + sumZ (fun i => if node < i ∧ par.getD i 0 = (node : Int) then (minC (c s) (T i) (T i).length).1 else 0) par.length
def rowV (T : Nat → List Int) (node : Nat) : List Int := (List.range S).map (numV c par kn T node)
def filV : Nat → Nat → List Int
  | 0 => fun _ => []
  | m + 1 => fun i => if i = par.length - 1 - m then rowV c par kn S (filV m) i else filV m i
def tabV : Nat → List Int := filV c par kn S par.length
theorem rowV_ext {T T' : Nat → List Int} (node : Nat) (h : ∀ i, node < i → i < par.length → T i = T' i) : rowV c par kn S T node = rowV c par kn S T' node := by
  unfold rowV
  refine List.map_congr_left fun s _ => ?_
  unfold numV
  congr 1
  refine sumZ_congr fun i hi => ?_
  split
  · rename_i hc; rw [h i hc.1 hi]
  · rfl
theorem filV_more (i : Nat) (hi : i < par.length) : ∀ m' m : Nat, par.length - i ≤ m → m + m' ≤ par.length → filV c par kn S (m + m') i = filV c par kn S m i
  | 0, m, _, _ => rfl
  | m' + 1, m, h1, h2 => by
    rw [← Nat.add_assoc, filV]
    dsimp only
    rw [if_neg (by omega)]
    exact filV_more i hi m' m h1 (by omega)
theorem tabV_row (i : Nat) (hi : i < par.length) : tabV c par kn S i = rowV c par kn S (tabV c par kn S) i := by
  have h1 : tabV c par kn S i = filV c par kn S (par.length - 1 - i + 1) i := by
    have := filV_more c par kn S i hi i (par.length - 1 - i + 1) (by omega) (by omega)
    rw [← this]
    unfold tabV
    congr 1
    omega
  rw [h1, filV]
  dsimp only
  rw [if_pos (by omega)]
  refine rowV_ext c par kn S i fun k hk hkl => ?_
  have := filV_more c par kn S k hkl (i + 1) (par.length - 1 - i) (by omega) (by omega)
  rw [← this]
  unfold tabV
  congr 1
  omega
theorem tabV_at (i s : Nat) (hi : i < par.length) (hs : s < S) : (tabV c par kn S i).getD s 0 = numV c par kn (tabV c par kn S) i s := by
  rw [tabV_row c par kn S i hi]
  unfold rowV
  simp [hs]
theorem tabV_len (i : Nat) (hi : i < par.length) : (tabV c par kn S i).length = S := by
  rw [tabV_row c par kn S i hi]
  simp [rowV]
end
structure TrOk (c : Nat → Nat → Int) (par : List Int) (kn : Nat → Int) (S : Nat) : Prop where
  pos : ∀ a b, 0 ≤ c a b
  up : ∀ i, 0 < i → i < par.length → 0 ≤ par.getD i 0 ∧ par.getD i 0 < (i : Int)
  kno : ∀ i, i < par.length → -1 ≤ kn i ∧ kn i < (S : Int)
  lf : ∀ i k, i < par.length → k < par.length → 0 ≤ kn i → par.getD k 0 ≠ (i : Int)
  some : 0 < S
section
variable {c : Nat → Nat → Int} {par : List Int} {kn : Nat → Int} {S : Nat} (ok : TrOk c par kn S)
include ok
theorem TrOk.row_some (i : Nat) (hi : i < par.length) : ∃ s, s < S ∧ 0 ≤ (tabV c par kn S i).getD s 0 := by
  generalize hd : par.length - i = d
  induction d using Nat.strongRecOn generalizing i with
  | ind d ih =>
    have hb : ∀ s, 0 ≤ sumZ (fun k => if i < k ∧ par.getD k 0 = (i : Int) then (minC (c s) (tabV c par kn S k) (tabV c par kn S k).length).1 else 0) par.length := fun s => by
      refine sumZ_nonneg fun k hk => ?_
      split
      · rename_i h
        obtain ⟨q, hq, h0⟩ := ih (par.length - k) (by omega) k hk rfl
        exact ((minC_spec (c s) (ok.pos s) (tabV c par kn S k) _).2 q (by rw [tabV_len c par kn S k hk]; exact hq) h0).1
      · exact Int.le_refl _
    have hk := ok.kno i hi
    by_cases h0 : 0 ≤ kn i
    · refine ⟨(kn i).toNat, by omega, ?_⟩
      rw [tabV_at c par kn S i _ hi (by omega), numV, if_neg (by omega)]
      have := hb (kn i).toNat
      omega
    · refine ⟨0, ok.some, ?_⟩
      rw [tabV_at c par kn S i _ hi ok.some, numV, if_neg (by omega)]
      have := hb 0
      omega
theorem TrOk.best_nonneg (a i : Nat) (hi : i < par.length) : 0 ≤ (minC (c a) (tabV c par kn S i) (tabV c par kn S i).length).1 := by
  obtain ⟨q, hq, h0⟩ := ok.row_some i hi
  exact ((minC_spec (c a) (ok.pos a) (tabV c par kn S i) _).2 q (by rw [tabV_len c par kn S i hi]; exact hq) h0).1
theorem TrOk.best_own (a i : Nat) (hi : i < par.length) : ∃ q : Nat, q < S ∧ (minC (c a) (tabV c par kn S i) (tabV c par kn S i).length).2 = (q : Int) ∧ 0 ≤ (tabV c par kn S i).getD q 0 ∧
    (minC (c a) (tabV c par kn S i) (tabV c par kn S i).length).1 = c a q + (tabV c par kn S i).getD q 0 := by
  have h := (minC_spec (c a) (ok.pos a) (tabV c par kn S i) (tabV c par kn S i).length).1
  have hn := ok.best_nonneg a i hi
  rw [tabV_len c par kn S i hi] at h hn ⊢
  rcases h with ⟨h1, _⟩ | h
  · omega
  · exact h
theorem TrOk.at_sum (i s : Nat) (hi : i < par.length) (hs : s < S) (h : kn i < 0 ∨ kn i = (s : Int)) :
    (tabV c par kn S i).getD s 0 = sumZ (fun k => if i < k ∧ par.getD k 0 = (i : Int) then (minC (c s) (tabV c par kn S k) (tabV c par kn S k).length).1 else 0) par.length := by
  have _ := ok.some
  rw [tabV_at c par kn S i s hi hs, numV, if_neg (by omega)]
  omega
theorem TrOk.at_neg (i s : Nat) (hi : i < par.length) (hs : s < S) (h0 : 0 ≤ (tabV c par kn S i).getD s 0) : kn i < 0 ∨ kn i = (s : Int) := by
  rw [tabV_at c par kn S i s hi hs, numV] at h0
  by_cases hc : 0 ≤ kn i ∧ kn i ≠ (s : Int)
  · rw [if_pos hc, sumZ_zero] at h0
    · omega
    · intro k hk
      exact if_neg fun h => ok.lf i k hi hk hc.1 h.2
  · omega
def psiV (c : Nat → Nat → Int) (par : List Int) (kn : Nat → Int) (S : Nat) (a : Nat → Nat) (k : Nat) : Int :=
  sumZ (fun i => if i = 0 then 0 else if i < k then c (a (par.getD i 0).toNat) (a i) else if (par.getD i 0).toNat < k then (minC (c (a (par.getD i 0).toNat)) (tabV c par kn S i) (tabV c par kn S i).length).1 else 0) par.length
def cstV (c : Nat → Nat → Int) (par : List Int) (a : Nat → Nat) : Int := sumZ (fun i => if i = 0 then 0 else c (a (par.getD i 0).toNat) (a i)) par.length
omit ok in
theorem psi_end (a : Nat → Nat) : psiV c par kn S a par.length = cstV c par a := by
  unfold psiV cstV
  refine sumZ_congr fun i hi => ?_
  by_cases h : i = 0
  · rw [if_pos h, if_pos h]
  · rw [if_neg h, if_neg h, if_pos hi]
theorem TrOk.psi_one (a : Nat → Nat) (h0 : 0 < par.length) (hS : a 0 < S) (hk : kn 0 < 0 ∨ kn 0 = (a 0 : Int)) : psiV c par kn S a 1 = (tabV c par kn S 0).getD (a 0) 0 := by
  rw [ok.at_sum 0 (a 0) h0 hS hk]
  unfold psiV
  refine sumZ_congr fun i hi => ?_
  by_cases h : i = 0
  · subst h; rw [if_pos rfl, if_neg (by omega)]
  · have hu := ok.up i (by omega) hi
    rw [if_neg h, if_neg (by omega)]
    by_cases hp : par.getD i 0 = ((0 : Nat) : Int)
    · have e : (par.getD i 0).toNat = 0 := by omega
      rw [if_pos (by omega), if_pos ⟨by omega, hp⟩, e]
    · rw [if_neg (by omega), if_neg (fun x => hp x.2)]
theorem TrOk.psi_step (a : Nat → Nat) (k : Nat) (h1 : 0 < k) (hk : k < par.length) (hS : a k < S) (hn : kn k < 0 ∨ kn k = (a k : Int)) :
    psiV c par kn S a (k + 1) = psiV c par kn S a k + (c (a (par.getD k 0).toNat) (a k) - (minC (c (a (par.getD k 0).toNat)) (tabV c par kn S k) (tabV c par kn S k).length).1) + (tabV c par kn S k).getD (a k) 0 := by
  rw [ok.at_sum k (a k) hk hS hn, ← sumZ_one (c (a (par.getD k 0).toNat) (a k) - (minC (c (a (par.getD k 0).toNat)) (tabV c par kn S k) (tabV c par kn S k).length).1) k hk]
  unfold psiV
  rw [← sumZ_add, ← sumZ_add]
  refine sumZ_congr fun i hi => ?_
  by_cases h0 : i = 0
  · subst h0
    rw [if_pos rfl, if_pos rfl, if_neg (by omega), if_neg (by omega)]; rfl
  have hu := ok.up i (by omega) hi
  rw [if_neg h0, if_neg h0]
  by_cases hik : i = k
  · subst hik
    rw [if_pos (by omega), if_neg (by omega), if_pos (by omega), if_pos rfl, if_neg (by omega)]
    omega
  · rw [if_neg hik]
    by_cases hl : i < k
    · rw [if_pos (by omega), if_pos hl, if_neg (by omega)];omega
    · rw [if_neg (by omega), if_neg hl]
      by_cases hp : par.getD i 0 = (k : Int)
      · have e : (par.getD i 0).toNat = k := by omega
        rw [if_pos (by omega), if_neg (by omega), if_pos ⟨by omega, hp⟩, e];omega
      · rw [if_neg (c := k < i ∧ par.getD i 0 = (k : Int)) (fun x => hp x.2)]
        by_cases hq : (par.getD i 0).toNat < k
        · rw [if_pos (by omega), if_pos hq];omega
        · rw [if_neg (by omega), if_neg hq]; rfl
theorem TrOk.lower (a : Nat → Nat) (h0 : 0 < par.length) (hS : ∀ i, i < par.length → a i < S) (hk : ∀ i, i < par.length → kn i < 0 ∨ kn i = (a i : Int)) :
    0 ≤ (tabV c par kn S 0).getD (a 0) 0 ∧ (tabV c par kn S 0).getD (a 0) 0 ≤ cstV c par a := by
  have hnn : ∀ i, i < par.length → 0 ≤ (tabV c par kn S i).getD (a i) 0 := fun i hi => by
    rw [ok.at_sum i (a i) hi (hS i hi) (hk i hi)]
    refine sumZ_nonneg fun k hk2 => ?_
    split
    · exact ok.best_nonneg _ k hk2
    · exact Int.le_refl _
  refine ⟨hnn 0 h0, ?_⟩
  have key : ∀ k : Nat, k + 1 ≤ par.length → psiV c par kn S a 1 ≤ psiV c par kn S a (k + 1) := by
    intro k
    induction k with
    | zero => intro _; exact Int.le_refl _
    | succ k ih =>
      intro hl
      have h2 := ih (by omega)
      have h3 := ok.psi_step a (k + 1) (by omega) (by omega) (hS _ (by omega)) (hk _ (by omega))
      have h4 := (minC_spec (c (a (par.getD (k + 1) 0).toNat)) (ok.pos _) (tabV c par kn S (k + 1)) (tabV c par kn S (k + 1)).length).2 (a (k + 1)) (by rw [tabV_len c par kn S _ (by omega)]; exact hS _ (by omega)) (hnn _ (by omega))
      omega
  have h5 := key (par.length - 1) (by omega)
  rw [ok.psi_one a h0 (hS 0 h0) (hk 0 h0), show par.length - 1 + 1 = par.length by omega, psi_end] at h5
  exact h5
theorem TrOk.reached (s : Nat) (h0 : 0 < par.length) (hs : s < S) (hz : 0 ≤ (tabV c par kn S 0).getD s 0) :
    ∃ a : Nat → Nat, a 0 = s ∧ (∀ i, i < par.length → a i < S) ∧ (∀ i, i < par.length → kn i < 0 ∨ kn i = (a i : Int)) ∧ cstV c par a = (tabV c par kn S 0).getD s 0 := by
  have hex : ∀ k : Nat, ∃ a : Nat → Nat, a 0 = s ∧ ∀ i, 0 < i → i < k → i < par.length → a i < S ∧ 0 ≤ (tabV c par kn S i).getD (a i) 0 ∧ (minC (c (a (par.getD i 0).toNat)) (tabV c par kn S i) (tabV c par kn S i).length).1 = c (a (par.getD i 0).toNat) (a i) + (tabV c par kn S i).getD (a i) 0 := by
    intro k
    induction k with
    | zero => exact ⟨fun _ => s, rfl, fun i _ h => absurd h (by omega)⟩
    | succ k ih =>
      obtain ⟨a, h1, h2⟩ := ih
      by_cases hk : 0 < k ∧ k < par.length
      · obtain ⟨q, b1, _, b3, b4⟩ := ok.best_own (a (par.getD k 0).toNat) k hk.2
        have hu := ok.up k hk.1 hk.2
        refine ⟨fun i => if i = k then q else a i, by show (if 0 = k then q else a 0) = s; rw [if_neg (by omega)]; exact h1, fun i g1 g2 g3 => ?_⟩
        dsimp only
        have hui := ok.up i g1 g3
        by_cases e : i = k
        · subst e
          rw [if_pos rfl, if_neg (by omega)]
          exact ⟨b1, b3, b4⟩
        · rw [if_neg e, if_neg (by omega)]
          exact h2 i g1 (by omega) g3
      · refine ⟨a, h1, fun i g1 g2 g3 => h2 i g1 ?_ g3⟩
        by_cases e : i = k
        · subst e; exact absurd ⟨g1, g3⟩ hk
        · omega
  obtain ⟨a, h1, h2⟩ := hex par.length
  have hS : ∀ i, i < par.length → a i < S := fun i hi => by
    by_cases e : i = 0
    · rw [e, h1]; exact hs
    · exact (h2 i (by omega) hi hi).1
  have hnn : ∀ i, i < par.length → 0 ≤ (tabV c par kn S i).getD (a i) 0 := fun i hi => by
    by_cases e : i = 0
    · rw [e, h1]; exact hz
    · exact (h2 i (by omega) hi hi).2.1
  have hk : ∀ i, i < par.length → kn i < 0 ∨ kn i = (a i : Int) := fun i hi => ok.at_neg i (a i) hi (hS i hi) (hnn i hi)
  refine ⟨a, h1, hS, hk, ?_⟩
  have key : ∀ k : Nat, k + 1 ≤ par.length → psiV c par kn S a 1 = psiV c par kn S a (k + 1) := by
    intro k
    induction k with
    | zero => intro _; rfl
    | succ k ih =>
      intro hl
      have g2 := ih (by omega)
      have g3 := ok.psi_step a (k + 1) (by omega) (by omega) (hS _ (by omega)) (hk _ (by omega))
      have g4 := (h2 (k + 1) (by omega) (by omega) (by omega)).2.2
      omega
  have h5 := key (par.length - 1) (by omega)
  rw [ok.psi_one a h0 (hS 0 h0) (hk 0 h0), show par.length - 1 + 1 = par.length by omega, psi_end, h1] at h5
  exact h5.symm
end
theorem sumZ_le {f g : Nat → Int} : ∀ {n : Nat}, (∀ i, i < n → f i ≤ g i) → sumZ f n ≤ sumZ g n
  | 0, _ => Int.le_refl _
  | n + 1, h => by
    have := sumZ_le (n := n) (fun i hi => h i (by omega))
    have := h n (by omega)
    rw [sumZ, sumZ];omega
theorem sumZ_mono {f : Nat → Int} (hf : ∀ i, 0 ≤ f i) (k : Nat) : ∀ d : Nat, sumZ f k ≤ sumZ f (k + d)
  | 0 => Int.le_refl _
  | d + 1 => by
    have := sumZ_mono hf k d
    have := hf (k + d)
    rw [← Nat.add_assoc, sumZ];omega
theorem sumZ_term {f : Nat → Int} (hf : ∀ i, 0 ≤ f i) {k n : Nat} (h : k < n) : f k ≤ sumZ f n := by
  obtain ⟨d, rfl⟩ : ∃ d, n = k + 1 + d := ⟨n - (k + 1), by omega⟩
  have h1 := sumZ_mono hf (k + 1) d
  have h2 : 0 ≤ sumZ f k := sumZ_nonneg fun i _ => hf i
  rw [sumZ] at h1
  omega
theorem sumZ_const (x : Int) : ∀ n : Nat, sumZ (fun _ => x) n = x * n
  | 0 => by simp [sumZ]
  | n + 1 => by
    rw [sumZ, sumZ_const x n, Int.natCast_add, Int.mul_add]
    simp
def topM (par : List Int) (i : Nat) : Int := (tabV (fun _ _ => 1000) par (fun _ => -1) 1 i).getD 0 0
theorem topOk {c : Nat → Nat → Int} {par : List Int} {kn : Nat → Int} {S : Nat} (ok : TrOk c par kn S) : TrOk (fun _ _ => 1000) par (fun _ => -1) 1 :=
  ⟨fun _ _ => by omega, ok.up, fun i hi => by omega, fun i k hi hk h => by omega, by omega⟩
section
variable {c : Nat → Nat → Int} {par : List Int} {kn : Nat → Int} {S : Nat} (ok : TrOk c par kn S)
include ok
theorem TrOk.topM_nonneg (i : Nat) (hi : i < par.length) : 0 ≤ topM par i := by
  have o := topOk ok
  unfold topM
  rw [o.at_sum i 0 hi (by omega) (.inl (by omega))]
  refine sumZ_nonneg fun k hk => ?_
  split
  · exact o.best_nonneg 0 k hk
  · exact Int.le_refl _
theorem TrOk.topM_best (i : Nat) (hi : i < par.length) : (minC (fun _ => (1000 : Int)) (tabV (fun _ _ => 1000) par (fun _ => -1) 1 i) (tabV (fun _ _ => 1000) par (fun _ => -1) 1 i).length).1 = 1000 + topM par i := by
  have o := topOk ok
  obtain ⟨q, h1, _, _, h4⟩ := o.best_own 0 i hi
  obtain rfl : q = 0 := by omega
  exact h4
theorem TrOk.topM_sum (i : Nat) (hi : i < par.length) : topM par i = sumZ (fun k => if i < k ∧ par.getD k 0 = (i : Int) then 1000 + topM par k else 0) par.length := by
  have o := topOk ok
  have h := o.at_sum i 0 hi (by omega) (.inl (by omega))
  have h2 : topM par i = (tabV (fun _ _ => 1000) par (fun _ => -1) 1 i).getD 0 0 := rfl
  rw [h2, h]
  refine sumZ_congr fun k hk => ?_
  by_cases e : i < k ∧ par.getD k 0 = (i : Int)
  · rw [if_pos e, if_pos e]; exact ok.topM_best k hk
  · rw [if_neg e, if_neg e]
theorem TrOk.topM_le (i : Nat) (hi : i < par.length) : topM par i ≤ 1000 * (par.length : Int) := by
  have o := topOk ok
  have h0 : 0 < par.length := by omega
  have key : ∀ k : Nat, k + 1 ≤ par.length → psiV (fun _ _ => 1000) par (fun _ => -1) 1 (fun _ => 0) 1 = psiV (fun _ _ => 1000) par (fun _ => -1) 1 (fun _ => 0) (k + 1) := by
    intro k
    induction k with
    | zero => intro _; rfl
    | succ k ih =>
      intro hl
      have g2 := ih (by omega)
      have g3 := o.psi_step (fun _ => 0) (k + 1) (by omega) (by omega) (by omega) (.inl (by omega))
      have g4 := ok.topM_best (k + 1) (by omega)
      have g5 : topM par (k + 1) = (tabV (fun _ _ => 1000) par (fun _ => -1) 1 (k + 1)).getD 0 0 := rfl
      omega
  have hend := key (par.length - 1) (by omega)
  rw [show par.length - 1 + 1 = par.length by omega, psi_end] at hend
  have hcst : cstV (fun _ _ => 1000) par (fun _ => 0) ≤ 1000 * (par.length : Int) := by
    rw [← sumZ_const]
    unfold cstV
    refine sumZ_le fun k hk => ?_
    split
    · omega
    · exact Int.le_refl _
  by_cases hz : i = 0
  · subst hz
    have h1 := o.psi_one (fun _ => 0) h0 (by omega) (.inl (by omega))
    have g5 : topM par 0 = (tabV (fun _ _ => 1000) par (fun _ => -1) 1 0).getD 0 0 := rfl
    omega
  · have h1 := key (i - 1) (by omega)
    rw [show i - 1 + 1 = i by omega] at h1
    have hu := ok.up i (by omega) hi
    have h2 := ok.topM_best i hi
    let f : Nat → Int := fun j => if j = 0 then 0 else if j < i then 1000 else if (par.getD j 0).toNat < i then (minC (fun _ => (1000 : Int)) (tabV (fun _ _ => 1000) par (fun _ => -1) 1 j) (tabV (fun _ _ => 1000) par (fun _ => -1) 1 j).length).1 else 0
    have hps : psiV (fun _ _ => 1000) par (fun _ => -1) 1 (fun _ => 0) i = sumZ f par.length := rfl
    have hps2 : sumZ f par.length = sumZ (fun j => if j < par.length then f j else 0) par.length := sumZ_congr fun j hj => by rw [if_pos hj]
    have hterm := sumZ_term (f := fun j => if j < par.length then f j else 0) (fun j => by
      split
      · rename_i hj
        show 0 ≤ f j
        dsimp only [f]
        split
        · exact Int.le_refl _
        split
        · omega
        split
        · exact o.best_nonneg 0 j hj
        · exact Int.le_refl _
      · exact Int.le_refl _) hi
    have hfi : f i = 1000 + topM par i := by
      dsimp only [f]
      rw [if_neg hz, if_neg (by omega), if_pos (by omega), h2]
    rw [if_pos hi, hfi] at hterm
    omega
theorem TrOk.at_le (hc : ∀ a b, c a b ≤ 1000) (i s : Nat) (hi : i < par.length) (hs : s < S) : (tabV c par kn S i).getD s 0 ≤ topM par i := by
  generalize hd : par.length - i = d
  induction d using Nat.strongRecOn generalizing i s with
  | ind d ih =>
    rw [tabV_at c par kn S i s hi hs, numV, ok.topM_sum i hi]
    have h1 : sumZ (fun k => if i < k ∧ par.getD k 0 = (i : Int) then (minC (c s) (tabV c par kn S k) (tabV c par kn S k).length).1 else 0) par.length ≤ sumZ (fun k => if i < k ∧ par.getD k 0 = (i : Int) then 1000 + topM par k else 0) par.length := by
      refine sumZ_le fun k hk => ?_
      by_cases e : i < k ∧ par.getD k 0 = (i : Int)
      · rw [if_pos e, if_pos e]
        obtain ⟨q, h1, _, h3, h4⟩ := ok.best_own s k hk
        have h5 := ih (par.length - k) (by omega) k q hk h1 rfl
        have h6 := hc s q
        omega
      · rw [if_neg e, if_neg e]; exact Int.le_refl _
    split <;> omega
theorem TrOk.part_rng (hc : ∀ a b, c a b ≤ 1000) (i s k : Nat) (hi : i < par.length) (hk : k ≤ par.length) :
    0 ≤ sumZ (fun j => if i < j ∧ par.getD j 0 = (i : Int) then (minC (c s) (tabV c par kn S j) (tabV c par kn S j).length).1 else 0) k ∧
    sumZ (fun j => if i < j ∧ par.getD j 0 = (i : Int) then (minC (c s) (tabV c par kn S j) (tabV c par kn S j).length).1 else 0) k ≤ 1000 * (par.length : Int) := by
  have hnn : ∀ j, j < par.length → 0 ≤ (if i < j ∧ par.getD j 0 = (i : Int) then (minC (c s) (tabV c par kn S j) (tabV c par kn S j).length).1 else 0) := fun j hj => by
    split
    · exact ok.best_nonneg _ j hj
    · exact Int.le_refl _
  refine ⟨sumZ_nonneg fun j hj => hnn j (by omega), ?_⟩
  have h2 : ∀ m : Nat, m ≤ par.length → sumZ (fun j => if i < j ∧ par.getD j 0 = (i : Int) then (minC (c s) (tabV c par kn S j) (tabV c par kn S j).length).1 else 0) m ≤ sumZ (fun j => if i < j ∧ par.getD j 0 = (i : Int) then 1000 + topM par j else 0) m := fun m hm => sumZ_le fun j hj => by
    by_cases e : i < j ∧ par.getD j 0 = (i : Int)
    · rw [if_pos e, if_pos e]
      obtain ⟨q, h1, _, h3, h4⟩ := ok.best_own s j (by omega)
      have h5 := ok.at_le hc j q (by omega) h1
      have h6 := hc s q
      omega
    · rw [if_neg e, if_neg e]; exact Int.le_refl _
  have h3 := h2 k hk
  have h4 : ∀ d m : Nat, m + d = par.length → sumZ (fun j => if i < j ∧ par.getD j 0 = (i : Int) then 1000 + topM par j else 0) m ≤ sumZ (fun j => if i < j ∧ par.getD j 0 = (i : Int) then 1000 + topM par j else 0) par.length := by
    intro d
    induction d with
    | zero => intro m hm; rw [show m = par.length by omega]; exact Int.le_refl _
    | succ d ih =>
      intro m hm
      have := ih (m + 1) (by omega)
      rw [sumZ] at this
      have h7 : 0 ≤ (if i < m ∧ par.getD m 0 = (i : Int) then 1000 + topM par m else 0) := by
        split
        · have := ok.topM_nonneg m (by omega);omega
        · exact Int.le_refl _
      omega
  have h5 := h4 (par.length - k) k (by omega)
  rw [← ok.topM_sum i hi] at h5
  have h6 := ok.topM_le i hi
  omega
theorem TrOk.best_le (hc : ∀ a b, c a b ≤ 1000) (s i : Nat) (hi : i < par.length) : (minC (c s) (tabV c par kn S i) (tabV c par kn S i).length).1 ≤ 1000 + 1000 * (par.length : Int) := by
  obtain ⟨q, h1, _, h3, h4⟩ := ok.best_own s i hi
  have h5 := ok.at_le hc i q hi h1
  have h6 := hc s q
  have h7 := ok.topM_le i hi
  omega
end
end Go.Proofs.YtpknpbeiifjmgaaGreat
namespace Go.Proofs.YtpknpbeiifjmgaaGreat
open Go.RowKit
structure Dt where
  node : Int
  fr : Int
  tl : Int
def dcells (ds : List Dt) : List Value := ds.flatMap fun d => [.int .i64 d.node, .int .i64 d.fr, .int .i64 d.tl]
structure Dats (w : World) (v : Value) (ds : List Dt) : Prop where
  sl : Sl w v 3 ds.length (fun j => (dcells ds).getD j undef)
  bd : ∀ d ∈ ds, (-9223372036854775808 ≤ d.node ∧ d.node ≤ 9223372036854775807) ∧ (-9223372036854775808 ≤ d.fr ∧ d.fr ≤ 9223372036854775807) ∧ (-9223372036854775808 ≤ d.tl ∧ d.tl ≤ 9223372036854775807)
theorem dcells_at (ds : List Dt) (j : Nat) (hj : j < ds.length) : (dcells ds)[j * 3]? = some (.int .i64 ds[j].node) ∧ (dcells ds)[j * 3 + 1]? = some (.int .i64 ds[j].fr) ∧ (dcells ds)[j * 3 + 2]? = some (.int .i64 ds[j].tl) := by
  induction ds generalizing j with
  | nil => simp at hj
  | cons d ds ih =>
    cases j with
    | zero => simp [dcells]
    | succ j =>
      have := ih j (by simpa using hj)
      have e : ∀ i, (dcells (d :: ds))[(j + 1) * 3 + i]? = (dcells ds)[j * 3 + i]? := by
        intro i
        have : (j + 1) * 3 + i = (j * 3 + i) + 3 := by omega
        rw [this]
        simp [dcells]
      have e0 := e 0
      simp only [Nat.add_zero] at e0
      rw [e0, e 1, e 2]
      simpa using this
theorem Dats.at {w : World} {v : Value} {ds : List Dt} (h : Dats w v ds) : ∃ a cap, v = .slice a ds.length cap ∧ ds.length ≤ 140737488355328 ∧ ∀ j, (hj : j < ds.length) → ∃ b off, a = some ⟨b, off, none⟩ ∧ w.cell? ⟨b, off + j * 3, none⟩ = some (.int .i64 ds[j].node) ∧
    w.cell? ⟨b, off + j * 3 + 1, none⟩ = some (.int .i64 ds[j].fr) ∧ w.cell? ⟨b, off + j * 3 + 2, none⟩ = some (.int .i64 ds[j].tl) := by
  obtain ⟨a, cap, hv, hl, hc⟩ := h.sl.shape
  refine ⟨a, cap, hv, hl, fun j hj => ?_⟩
  obtain ⟨b, off, ha, h0⟩ := hc (j * 3) (by omega)
  obtain ⟨b', off', ha', h1⟩ := hc (j * 3 + 1) (by omega)
  obtain ⟨b'', off'', ha'', h2⟩ := hc (j * 3 + 2) (by omega)
  rw [ha] at ha' ha''
  simp only [Option.some.injEq, Addr.mk.injEq, and_true] at ha' ha''
  obtain ⟨rfl, rfl⟩ := ha'
  obtain ⟨rfl, rfl⟩ := ha''
  obtain ⟨e0, e1, e2⟩ := dcells_at ds j hj
  refine ⟨b, off, ha, ?_, ?_, ?_⟩
  · rw [h0]; simp [e0]
  · rw [Nat.add_assoc, h1]; simp [e1]
  · rw [Nat.add_assoc, h2]; simp [e2]
theorem Dats.below {w w' : World} {v : Value} {ds : List Dt} (h : Dats w v ds) (hb : Below w.heap.size w w') : Dats w' v ds := ⟨h.sl.below hb, h.bd⟩
def dBad (n : Nat) (d : Dt) : Prop := d.node < 0 ∨ (n : Int) ≤ d.node ∨ d.fr < -5000 ∨ 5000 < d.fr ∨ d.tl < -5000 ∨ 5000 < d.tl
instance (n : Nat) (d : Dt) : Decidable (dBad n d) := by unfold dBad; infer_instance
end Go.Proofs.YtpknpbeiifjmgaaGreat
namespace Go.Proofs.YtpknpbeiifjmgaaGreat
open Go.RowKit
theorem pt1Box {B : Nat} {w0 w : World} {L : List Res} {e : TypeId} {g : Nat} {cs : List Value} {v : Value} (hp : Hp B w0 w L) (i : Nat) (hi : L[i]? = some (.box e g cs)) (k : Nat) (hk : cs[k]? = some v) : Pt1 w (.pointer (some ⟨g, k, none⟩)) v :=
  ⟨g, k, rfl, by rw [← hk]; exact (hp.boxAt i hi).1 k⟩
end Go.Proofs.YtpknpbeiifjmgaaGreat
