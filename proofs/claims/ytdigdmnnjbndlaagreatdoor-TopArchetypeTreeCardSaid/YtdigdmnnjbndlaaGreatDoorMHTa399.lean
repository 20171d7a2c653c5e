/-
  Part 9 of the proof: Pm33, Kind, Char, Leaf, Stem, Stp. No statement of the seat is proved here.
-/
import Derived.Test.YtdigdmnnjbndlaaGreatDoorMHTa398
import Derived.Test.YtdigdmnnjbndlaaGreatDoorRows
import Derived.WalkKit
import Derived.WalkSpells
import Derived.WalkLawsBesides
import Derived.Lib.Hide
import Derived.Deep.Light
import Derived.Deep.QuietTactic
import Derived.BigQuiet
namespace Go.Proofs.YtdigdmnnjbndlaaGreatDoor
def sumZ (f : Nat → Int) : Nat → Int
  | 0 => 0
  | k + 1 => sumZ f k + f k
theorem sumZ_congr {f g : Nat → Int} : ∀ {n : Nat}, (∀ i, i < n → f i = g i) → sumZ f n = sumZ g n
  | 0, _ => rfl
  | n + 1, h => by rw [sumZ, sumZ, sumZ_congr (fun i hi => h i (by omega)), h n (by omega)]
theorem sumZ_add (f g : Nat → Int) : ∀ n : Nat, sumZ (fun i => f i + g i) n = sumZ f n + sumZ g n
  | 0 => rfl
  | n + 1 => by rw [sumZ, sumZ, sumZ, sumZ_add f g n];omega
theorem sumZ_zero {f : Nat → Int} : ∀ {n : Nat}, (∀ i, i < n → f i = 0) → sumZ f n = 0
  | 0, _ => rfl
  | n + 1, h => by rw [sumZ, sumZ_zero (fun i hi => h i (by omega)), h n (by omega)]; rfl
theorem sumZ_nonneg {f : Nat → Int} : ∀ {n : Nat}, (∀ i, i < n → 0 ≤ f i) → 0 ≤ sumZ f n
  | 0, _ => Int.le_refl _
  | n + 1, h => by
    have := sumZ_nonneg (n := n) (fun i hi => h i (by omega))
    have := h n (by omega)
    rw [sumZ];omega
theorem sumZ_one (x : Int) (k : Nat) : ∀ {n : Nat}, k < n → sumZ (fun i => if i = k then x else 0) n = x
  | 0, h => absurd h (by omega)
  | n + 1, h => by
    rw [sumZ]
    by_cases e : n = k
    · rw [if_pos e, sumZ_zero (fun i hi => if_neg (by omega))];omega
    · rw [if_neg e, sumZ_one x k (by omega)];omega
def minC (c : Nat → Int) (row : List Int) : Nat → Int × Int
  | 0 => (-1, 0)
  | k + 1 => if row.getD k 0 < 0 then minC c row k else if (minC c row k).1 < 0 ∨ c k + row.getD k 0 < (minC c row k).1 then (c k + row.getD k 0, (k : Int)) else minC c row k
theorem minC_spec (c : Nat → Int) (hc : ∀ j, 0 ≤ c j) (row : List Int) : ∀ k : Nat,
    (((minC c row k).1 = -1 ∧ ∀ j, j < k → row.getD j 0 < 0) ∨ (∃ q : Nat, q < k ∧ (minC c row k).2 = (q : Int) ∧ 0 ≤ row.getD q 0 ∧ (minC c row k).1 = c q + row.getD q 0)) ∧
    ∀ j, j < k → 0 ≤ row.getD j 0 → 0 ≤ (minC c row k).1 ∧ (minC c row k).1 ≤ c j + row.getD j 0
  | 0 => ⟨.inl ⟨rfl, fun j hj => absurd hj (by omega)⟩, fun j hj => absurd hj (by omega)⟩
  | k + 1 => by
    obtain ⟨h1, h2⟩ := minC_spec c hc row k
    have hck := hc k
    unfold minC
    by_cases hn : row.getD k 0 < 0
    · rw [if_pos hn]
      refine ⟨?_, fun j hj h0 => ?_⟩
      · rcases h1 with ⟨a, b⟩ | ⟨q, a, b, d, e⟩
        · refine .inl ⟨a, fun j hj => ?_⟩
          by_cases e : j = k
          · rw [e]; exact hn
          · exact b j (by omega)
        · exact .inr ⟨q, by omega, b, d, e⟩
      · by_cases e : j = k
        · subst e;omega
        · exact h2 j (by omega) h0
    · rw [if_neg hn]
      by_cases hl : (minC c row k).1 < 0 ∨ c k + row.getD k 0 < (minC c row k).1
      · rw [if_pos hl]
        refine ⟨.inr ⟨k, by omega, rfl, by omega, rfl⟩, fun j hj h0 => ⟨by show 0 ≤ c k + row.getD k 0;omega, ?_⟩⟩
        show c k + row.getD k 0 ≤ _
        by_cases e : j = k
        · subst e; exact Int.le_refl _
        · have := h2 j (by omega) h0
          omega
      · rw [if_neg hl]
        refine ⟨?_, fun j hj h0 => ?_⟩
        · rcases h1 with ⟨a, b⟩ | ⟨q, a, b, d, e⟩
          · exact absurd (.inl (by omega)) hl
          · exact .inr ⟨q, by omega, b, d, e⟩
        · by_cases e : j = k
          · subst e;omega
          · exact h2 j (by omega) h0
section
variable (c : Nat → Nat → Int) (par : List Int) (kn : Nat → Int) (S : Nat)
def numV (T : Nat → List Int) (node s : Nat) : Int :=
  (if 0 ≤ kn node ∧ kn node ≠ (s : Int) then -1 else 0) + sumZ (fun i => if node < i ∧ par.getD i 0 = (node : Int) then (minC (c s) (T i) (T i).length).1 else 0) par.length
def rowV (T : Nat → List Int) (node : Nat) : List Int := (List.range S).map (numV c par kn T node)
def filV : Nat → Nat → List Int
  | 0 => fun _ => []
  | m + 1 => fun i => if i = par.length - 1 - m then rowV c par kn S (filV m) i else filV m i
def tabV : Nat → List Int := filV c par kn S par.length
theorem rowV_ext {T T' : Nat → List Int} (node : Nat) (h : ∀ i, node < i → i < par.length → T i = T' i) : rowV c par kn S T node = rowV c par kn S T' node := by
  unfold rowV
  refine List.map_congr_left fun s _ => ?_
  unfold numV
  congr 1
  refine sumZ_congr fun i hi => ?_
  split
  · rename_i hc; rw [h i hc.1 hi]
  · rfl
theorem filV_more (i : Nat) (hi : i < par.length) : ∀ m' m : Nat, par.length - i ≤ m → m + m' ≤ par.length → filV c par kn S (m + m') i = filV c par kn S m i
  | 0, m, _, _ => rfl
  | m' + 1, m, h1, h2 => by
    rw [← Nat.add_assoc, filV]
    dsimp only
    rw [if_neg (by omega)]
    exact filV_more i hi m' m h1 (by omega)
theorem tabV_row (i : Nat) (hi : i < par.length) : tabV c par kn S i = rowV c par kn S (tabV c par kn S) i := by
  have h1 : tabV c par kn S i = filV c par kn S (par.length - 1 - i + 1) i := by
    have := filV_more c par kn S i hi i (par.length - 1 - i + 1) (by omega) (by omega)
    rw [← this]
    unfold tabV
    congr 1
    omega
  rw [h1, filV]
  dsimp only
  rw [if_pos (by omega)]
  refine rowV_ext c par kn S i fun k hk hkl => ?_
  have := filV_more c par kn S k hkl (i + 1) (par.length - 1 - i) (by omega) (by omega)
  rw [← this]
  unfold tabV
  congr 1
  omega
theorem tabV_at (i s : Nat) (hi : i < par.length) (hs : s < S) : (tabV c par kn S i).getD s 0 = numV c par kn (tabV c par kn S) i s := by
  rw [tabV_row c par kn S i hi]
  unfold rowV
  simp [hs]
theorem tabV_len (i : Nat) (hi : i < par.length) : (tabV c par kn S i).length = S := by
  rw [tabV_row c par kn S i hi]
  simp [rowV]
end
structure TrOk (c : Nat → Nat → Int) (par : List Int) (kn : Nat → Int) (S : Nat) : Prop where
  pos : ∀ a b, 0 ≤ c a b
  up : ∀ i, 0 < i → i < par.length → 0 ≤ par.getD i 0 ∧ par.getD i 0 < (i : Int)
  kno : ∀ i, i < par.length → -1 ≤ kn i ∧ kn i < (S : Int)
  lf : ∀ i k, i < par.length → k < par.length → 0 ≤ kn i → par.getD k 0 ≠ (i : Int)
  some : 0 < S
section
variable {c : Nat → Nat → Int} {par : List Int} {kn : Nat → Int} {S : Nat} (ok : TrOk c par kn S)
include ok
theorem TrOk.row_some (i : Nat) (hi : i < par.length) : ∃ s, s < S ∧ 0 ≤ (tabV c par kn S i).getD s 0 := by
  generalize hd : par.length - i = d
  induction d using Nat.strongRecOn generalizing i with
  | ind d ih =>
    have hb : ∀ s, 0 ≤ sumZ (fun k => if i < k ∧ par.getD k 0 = (i : Int) then (minC (c s) (tabV c par kn S k) (tabV c par kn S k).length).1 else 0) par.length := fun s => by
      refine sumZ_nonneg fun k hk => ?_
      split
      · rename_i h
        obtain ⟨q, hq, h0⟩ := ih (par.length - k) (by omega) k hk rfl
        exact ((minC_spec (c s) (ok.pos s) (tabV c par kn S k) _).2 q (by rw [tabV_len c par kn S k hk]; exact hq) h0).1
      · exact Int.le_refl _
    have hk := ok.kno i hi
    by_cases h0 : 0 ≤ kn i
    · refine ⟨(kn i).toNat, by omega, ?_⟩
      rw [tabV_at c par kn S i _ hi (by omega), numV, if_neg (by omega)]
      have := hb (kn i).toNat
      omega
    · refine ⟨0, ok.some, ?_⟩
      rw [tabV_at c par kn S i _ hi ok.some, numV, if_neg (by omega)]
      have := hb 0
      omega
theorem TrOk.best_nonneg (a i : Nat) (hi : i < par.length) : 0 ≤ (minC (c a) (tabV c par kn S i) (tabV c par kn S i).length).1 := by
  obtain ⟨q, hq, h0⟩ := ok.row_some i hi
  exact ((minC_spec (c a) (ok.pos a) (tabV c par kn S i) _).2 q (by rw [tabV_len c par kn S i hi]; exact hq) h0).1
theorem TrOk.best_own (a i : Nat) (hi : i < par.length) : ∃ q : Nat, q < S ∧ (minC (c a) (tabV c par kn S i) (tabV c par kn S i).length).2 = (q : Int) ∧ 0 ≤ (tabV c par kn S i).getD q 0 ∧
    (minC (c a) (tabV c par kn S i) (tabV c par kn S i).length).1 = c a q + (tabV c par kn S i).getD q 0 := by
  have h := (minC_spec (c a) (ok.pos a) (tabV c par kn S i) (tabV c par kn S i).length).1
  have hn := ok.best_nonneg a i hi
  rw [tabV_len c par kn S i hi] at h hn ⊢
  rcases h with ⟨h1, _⟩ | h
  · omega
  · exact h
theorem TrOk.at_sum (i s : Nat) (hi : i < par.length) (hs : s < S) (h : kn i < 0 ∨ kn i = (s : Int)) :
    (tabV c par kn S i).getD s 0 = sumZ (fun k => if i < k ∧ par.getD k 0 = (i : Int) then (minC (c s) (tabV c par kn S k) (tabV c par kn S k).length).1 else 0) par.length := by
  have _ := ok.some
  rw [tabV_at c par kn S i s hi hs, numV, if_neg (by omega)]
  omega
theorem TrOk.at_neg (i s : Nat) (hi : i < par.length) (hs : s < S) (h0 : 0 ≤ (tabV c par kn S i).getD s 0) : kn i < 0 ∨ kn i = (s : Int) := by
  rw [tabV_at c par kn S i s hi hs, numV] at h0
  by_cases hc : 0 ≤ kn i ∧ kn i ≠ (s : Int)
  · rw [if_pos hc, sumZ_zero] at h0
    · omega
    · intro k hk
      exact if_neg fun h => ok.lf i k hi hk hc.1 h.2
  · omega
def psiV (c : Nat → Nat → Int) (par : List Int) (kn : Nat → Int) (S : Nat) (a : Nat → Nat) (k : Nat) : Int :=
  sumZ (fun i => if i = 0 then 0 else if i < k then c (a (par.getD i 0).toNat) (a i) else if (par.getD i 0).toNat < k then (minC (c (a (par.getD i 0).toNat)) (tabV c par kn S i) (tabV c par kn S i).length).1 else 0) par.length
def cstV (c : Nat → Nat → Int) (par : List Int) (a : Nat → Nat) : Int := sumZ (fun i => if i = 0 then 0 else c (a (par.getD i 0).toNat) (a i)) par.length
omit ok in
theorem psi_end (a : Nat → Nat) : psiV c par kn S a par.length = cstV c par a := by
  unfold psiV cstV
  refine sumZ_congr fun i hi => ?_
  by_cases h : i = 0
  · rw [if_pos h, if_pos h]
  · rw [if_neg h, if_neg h, if_pos hi]
theorem TrOk.psi_one (a : Nat → Nat) (h0 : 0 < par.length) (hS : a 0 < S) (hk : kn 0 < 0 ∨ kn 0 = (a 0 : Int)) : psiV c par kn S a 1 = (tabV c par kn S 0).getD (a 0) 0 := by
  rw [ok.at_sum 0 (a 0) h0 hS hk]
  unfold psiV
  refine sumZ_congr fun i hi => ?_
  by_cases h : i = 0
  · subst h; rw [if_pos rfl, if_neg (by omega)]
  · have hu := ok.up i (by omega) hi
    rw [if_neg h, if_neg (by omega)]
    by_cases hp : par.getD i 0 = ((0 : Nat) : Int)
    · have e : (par.getD i 0).toNat = 0 := by omega
      rw [if_pos (by omega), if_pos ⟨by omega, hp⟩, e]
    · rw [if_neg (by omega), if_neg (fun x => hp x.2)]
theorem TrOk.psi_step (a : Nat → Nat) (k : Nat) (h1 : 0 < k) (hk : k < par.length) (hS : a k < S) (hn : kn k < 0 ∨ kn k = (a k : Int)) :
    psiV c par kn S a (k + 1) = psiV c par kn S a k + (c (a (par.getD k 0).toNat) (a k) - (minC (c (a (par.getD k 0).toNat)) (tabV c par kn S k) (tabV c par kn S k).length).1) + (tabV c par kn S k).getD (a k) 0 := by
  rw [ok.at_sum k (a k) hk hS hn, ← sumZ_one (c (a (par.getD k 0).toNat) (a k) - (minC (c (a (par.getD k 0).toNat)) (tabV c par kn S k) (tabV c par kn S k).length).1) k hk]
  unfold psiV
  rw [← sumZ_add, ← sumZ_add]
  refine sumZ_congr fun i hi => ?_
  by_cases h0 : i = 0
  · subst h0
    rw [if_pos rfl, if_pos rfl, if_neg (by omega), if_neg (by omega)]; rfl
  have hu := ok.up i (by omega) hi
  rw [if_neg h0, if_neg h0]
  by_cases hik : i = k
  · subst hik
    rw [if_pos (by omega), if_neg (by omega), if_pos (by omega), if_pos rfl, if_neg (by omega)]
    omega
  · rw [if_neg hik]
    by_cases hl : i < k
    · rw [if_pos (by omega), if_pos hl, if_neg (by omega)];omega
    · rw [if_neg (by omega), if_neg hl]
      by_cases hp : par.getD i 0 = (k : Int)
      · have e : (par.getD i 0).toNat = k := by omega
        rw [if_pos (by omega), if_neg (by omega), if_pos ⟨by omega, hp⟩, e];omega
      · rw [if_neg (c := k < i ∧ par.getD i 0 = (k : Int)) (fun x => hp x.2)]
        by_cases hq : (par.getD i 0).toNat < k
        · rw [if_pos (by omega), if_pos hq];omega
        · rw [if_neg (by omega), if_neg hq]; rfl
theorem TrOk.lower (a : Nat → Nat) (h0 : 0 < par.length) (hS : ∀ i, i < par.length → a i < S) (hk : ∀ i, i < par.length → kn i < 0 ∨ kn i = (a i : Int)) :
    0 ≤ (tabV c par kn S 0).getD (a 0) 0 ∧ (tabV c par kn S 0).getD (a 0) 0 ≤ cstV c par a := by
  have hnn : ∀ i, i < par.length → 0 ≤ (tabV c par kn S i).getD (a i) 0 := fun i hi => by
    rw [ok.at_sum i (a i) hi (hS i hi) (hk i hi)]
    refine sumZ_nonneg fun k hk2 => ?_
    split
    · exact ok.best_nonneg _ k hk2
    · exact Int.le_refl _
  refine ⟨hnn 0 h0, ?_⟩
  have key : ∀ k : Nat, k + 1 ≤ par.length → psiV c par kn S a 1 ≤ psiV c par kn S a (k + 1) := by
    intro k
    induction k with
    | zero => intro _; exact Int.le_refl _
    | succ k ih =>
      intro hl
      have h2 := ih (by omega)
      have h3 := ok.psi_step a (k + 1) (by omega) (by omega) (hS _ (by omega)) (hk _ (by omega))
      have h4 := (minC_spec (c (a (par.getD (k + 1) 0).toNat)) (ok.pos _) (tabV c par kn S (k + 1)) (tabV c par kn S (k + 1)).length).2 (a (k + 1)) (by rw [tabV_len c par kn S _ (by omega)]; exact hS _ (by omega)) (hnn _ (by omega))
      omega
  have h5 := key (par.length - 1) (by omega)
  rw [ok.psi_one a h0 (hS 0 h0) (hk 0 h0), show par.length - 1 + 1 = par.length by omega, psi_end] at h5
  exact h5
theorem TrOk.reached (s : Nat) (h0 : 0 < par.length) (hs : s < S) (hz : 0 ≤ (tabV c par kn S 0).getD s 0) :
    ∃ a : Nat → Nat, a 0 = s ∧ (∀ i, i < par.length → a i < S) ∧ (∀ i, i < par.length → kn i < 0 ∨ kn i = (a i : Int)) ∧ cstV c par a = (tabV c par kn S 0).getD s 0 := by
  have hex : ∀ k : Nat, ∃ a : Nat → Nat, a 0 = s ∧ ∀ i, 0 < i → i < k → i < par.length → a i < S ∧ 0 ≤ (tabV c par kn S i).getD (a i) 0 ∧ (minC (c (a (par.getD i 0).toNat)) (tabV c par kn S i) (tabV c par kn S i).length).1 = c (a (par.getD i 0).toNat) (a i) + (tabV c par kn S i).getD (a i) 0 := by
    intro k
    induction k with
    | zero => exact ⟨fun _ => s, rfl, fun i _ h => absurd h (by omega)⟩
    | succ k ih =>
      obtain ⟨a, h1, h2⟩ := ih
      by_cases hk : 0 < k ∧ k < par.length
      · obtain ⟨q, b1, _, b3, b4⟩ := ok.best_own (a (par.getD k 0).toNat) k hk.2
        have hu := ok.up k hk.1 hk.2
        refine ⟨fun i => if i = k then q else a i, by show (if 0 = k then q else a 0) = s; rw [if_neg (by omega)]; exact h1, fun i g1 g2 g3 => ?_⟩
        dsimp only
        have hui := ok.up i g1 g3
        by_cases e : i = k
        · subst e
          rw [if_pos rfl, if_neg (by omega)]
          exact ⟨b1, b3, b4⟩
        · rw [if_neg e, if_neg (by omega)]
          exact h2 i g1 (by omega) g3
      · refine ⟨a, h1, fun i g1 g2 g3 => h2 i g1 ?_ g3⟩
        by_cases e : i = k
        · subst e; exact absurd ⟨g1, g3⟩ hk
        · omega
  obtain ⟨a, h1, h2⟩ := hex par.length
  have hS : ∀ i, i < par.length → a i < S := fun i hi => by
    by_cases e : i = 0
    · rw [e, h1]; exact hs
    · exact (h2 i (by omega) hi hi).1
  have hnn : ∀ i, i < par.length → 0 ≤ (tabV c par kn S i).getD (a i) 0 := fun i hi => by
    by_cases e : i = 0
    · rw [e, h1]; exact hz
    · exact (h2 i (by omega) hi hi).2.1
  have hk : ∀ i, i < par.length → kn i < 0 ∨ kn i = (a i : Int) := fun i hi => ok.at_neg i (a i) hi (hS i hi) (hnn i hi)
  refine ⟨a, h1, hS, hk, ?_⟩
  have key : ∀ k : Nat, k + 1 ≤ par.length → psiV c par kn S a 1 = psiV c par kn S a (k + 1) := by
    intro k
    induction k with
    | zero => intro _; rfl
    | succ k ih =>
      intro hl
      have g2 := ih (by omega)
      have g3 := ok.psi_step a (k + 1) (by omega) (by omega) (hS _ (by omega)) (hk _ (by omega))
      have g4 := (h2 (k + 1) (by omega) (by omega) (by omega)).2.2
      omega
  have h5 := key (par.length - 1) (by omega)
  rw [ok.psi_one a h0 (hS 0 h0) (hk 0 h0), show par.length - 1 + 1 = par.length by omega, psi_end, h1] at h5
  exact h5.symm
end
theorem sumZ_le {f g : Nat → Int} : ∀ {n : Nat}, (∀ i, i < n → f i ≤ g i) → sumZ f n ≤ sumZ g n
  | 0, _ => Int.le_refl _
  | n + 1, h => by
    have := sumZ_le (n := n) (fun i hi => h i (by omega))
    have := h n (by omega)
    rw [sumZ, sumZ];omega
theorem sumZ_mono {f : Nat → Int} (hf : ∀ i, 0 ≤ f i) (k : Nat) : ∀ d : Nat, sumZ f k ≤ sumZ f (k + d)
  | 0 => Int.le_refl _
  | d + 1 => by
    have := sumZ_mono hf k d
    have := hf (k + d)
    rw [← Nat.add_assoc, sumZ];omega
theorem sumZ_term {f : Nat → Int} (hf : ∀ i, 0 ≤ f i) {k n : Nat} (h : k < n) : f k ≤ sumZ f n := by
  obtain ⟨d, rfl⟩ : ∃ d, n = k + 1 + d := ⟨n - (k + 1), by omega⟩
  have h1 := sumZ_mono hf (k + 1) d
  have h2 : 0 ≤ sumZ f k := sumZ_nonneg fun i _ => hf i
  rw [sumZ] at h1
  omega
theorem sumZ_const (x : Int) : ∀ n : Nat, sumZ (fun _ => x) n = x * n
  | 0 => by simp [sumZ]
  | n + 1 => by
    rw [sumZ, sumZ_const x n, Int.natCast_add, Int.mul_add]
    simp
def topM (par : List Int) (i : Nat) : Int := (tabV (fun _ _ => 1000) par (fun _ => -1) 1 i).getD 0 0
theorem topOk {c : Nat → Nat → Int} {par : List Int} {kn : Nat → Int} {S : Nat} (ok : TrOk c par kn S) : TrOk (fun _ _ => 1000) par (fun _ => -1) 1 :=
  ⟨fun _ _ => by omega, ok.up, fun i hi => by omega, fun i k hi hk h => by omega, by omega⟩
section
variable {c : Nat → Nat → Int} {par : List Int} {kn : Nat → Int} {S : Nat} (ok : TrOk c par kn S)
include ok
theorem TrOk.topM_nonneg (i : Nat) (hi : i < par.length) : 0 ≤ topM par i := by
  have o := topOk ok
  unfold topM
  rw [o.at_sum i 0 hi (by omega) (.inl (by omega))]
  refine sumZ_nonneg fun k hk => ?_
  split
  · exact o.best_nonneg 0 k hk
  · exact Int.le_refl _
theorem TrOk.topM_best (i : Nat) (hi : i < par.length) : (minC (fun _ => (1000 : Int)) (tabV (fun _ _ => 1000) par (fun _ => -1) 1 i) (tabV (fun _ _ => 1000) par (fun _ => -1) 1 i).length).1 = 1000 + topM par i := by
  have o := topOk ok
  obtain ⟨q, h1, _, _, h4⟩ := o.best_own 0 i hi
  obtain rfl : q = 0 := by omega
  exact h4
theorem TrOk.topM_sum (i : Nat) (hi : i < par.length) : topM par i = sumZ (fun k => if i < k ∧ par.getD k 0 = (i : Int) then 1000 + topM par k else 0) par.length := by
  have o := topOk ok
  have h := o.at_sum i 0 hi (by omega) (.inl (by omega))
  have h2 : topM par i = (tabV (fun _ _ => 1000) par (fun _ => -1) 1 i).getD 0 0 := rfl
  rw [h2, h]
  refine sumZ_congr fun k hk => ?_
  by_cases e : i < k ∧ par.getD k 0 = (i : Int)
  · rw [if_pos e, if_pos e]; exact ok.topM_best k hk
  · rw [if_neg e, if_neg e]
theorem TrOk.topM_le (i : Nat) (hi : i < par.length) : topM par i ≤ 1000 * (par.length : Int) := by
  have o := topOk ok
  have h0 : 0 < par.length := by omega
  have key : ∀ k : Nat, k + 1 ≤ par.length → psiV (fun _ _ => 1000) par (fun _ => -1) 1 (fun _ => 0) 1 = psiV (fun _ _ => 1000) par (fun _ => -1) 1 (fun _ => 0) (k + 1) := by
    intro k
    induction k with
    | zero => intro _; rfl
    | succ k ih =>
      intro hl
      have g2 := ih (by omega)
      have g3 := o.psi_step (fun _ => 0) (k + 1) (by omega) (by omega) (by omega) (.inl (by omega))
      have g4 := ok.topM_best (k + 1) (by omega)
      have g5 : topM par (k + 1) = (tabV (fun _ _ => 1000) par (fun _ => -1) 1 (k + 1)).getD 0 0 := rfl
      omega
  have hend := key (par.length - 1) (by omega)
  rw [show par.length - 1 + 1 = par.length by omega, psi_end] at hend
  have hcst : cstV (fun _ _ => 1000) par (fun _ => 0) ≤ 1000 * (par.length : Int) := by
    rw [← sumZ_const]
    unfold cstV
    refine sumZ_le fun k hk => ?_
    split
    · omega
    · exact Int.le_refl _
  by_cases hz : i = 0
  · subst hz
    have h1 := o.psi_one (fun _ => 0) h0 (by omega) (.inl (by omega))
    have g5 : topM par 0 = (tabV (fun _ _ => 1000) par (fun _ => -1) 1 0).getD 0 0 := rfl
    omega
  · have h1 := key (i - 1) (by omega)
    rw [show i - 1 + 1 = i by omega] at h1
    have hu := ok.up i (by omega) hi
    have h2 := ok.topM_best i hi
    let f : Nat → Int := fun j => if j = 0 then 0 else if j < i then 1000 else if (par.getD j 0).toNat < i then (minC (fun _ => (1000 : Int)) (tabV (fun _ _ => 1000) par (fun _ => -1) 1 j) (tabV (fun _ _ => 1000) par (fun _ => -1) 1 j).length).1 else 0
    have hps : psiV (fun _ _ => 1000) par (fun _ => -1) 1 (fun _ => 0) i = sumZ f par.length := rfl
    have hps2 : sumZ f par.length = sumZ (fun j => if j < par.length then f j else 0) par.length := sumZ_congr fun j hj => by rw [if_pos hj]
    have hterm := sumZ_term (f := fun j => if j < par.length then f j else 0) (fun j => by
      split
      · rename_i hj
        show 0 ≤ f j
        dsimp only [f]
        split
        · exact Int.le_refl _
        split
        · omega
        split
        · exact o.best_nonneg 0 j hj
        · exact Int.le_refl _
      · exact Int.le_refl _) hi
    have hfi : f i = 1000 + topM par i := by
      dsimp only [f]
      rw [if_neg hz, if_neg (by omega), if_pos (by omega), h2]
    rw [if_pos hi, hfi] at hterm
    omega
theorem TrOk.at_le (hc : ∀ a b, c a b ≤ 1000) (i s : Nat) (hi : i < par.length) (hs : s < S) : (tabV c par kn S i).getD s 0 ≤ topM par i := by
  generalize hd : par.length - i = d
  induction d using Nat.strongRecOn generalizing i s with
  | ind d ih =>
    rw [tabV_at c par kn S i s hi hs, numV, ok.topM_sum i hi]
    have h1 : sumZ (fun k => if i < k ∧ par.getD k 0 = (i : Int) then (minC (c s) (tabV c par kn S k) (tabV c par kn S k).length).1 else 0) par.length ≤ sumZ (fun k => if i < k ∧ par.getD k 0 = (i : Int) then 1000 + topM par k else 0) par.length := by
      refine sumZ_le fun k hk => ?_
      by_cases e : i < k ∧ par.getD k 0 = (i : Int)
      · rw [if_pos e, if_pos e]
        obtain ⟨q, h1, _, h3, h4⟩ := ok.best_own s k hk
        have h5 := ih (par.length - k) (by omega) k q hk h1 rfl
        have h6 := hc s q
        omega
      · rw [if_neg e, if_neg e]; exact Int.le_refl _
    split <;> omega
theorem TrOk.part_rng (hc : ∀ a b, c a b ≤ 1000) (i s k : Nat) (hi : i < par.length) (hk : k ≤ par.length) :
    0 ≤ sumZ (fun j => if i < j ∧ par.getD j 0 = (i : Int) then (minC (c s) (tabV c par kn S j) (tabV c par kn S j).length).1 else 0) k ∧
    sumZ (fun j => if i < j ∧ par.getD j 0 = (i : Int) then (minC (c s) (tabV c par kn S j) (tabV c par kn S j).length).1 else 0) k ≤ 1000 * (par.length : Int) := by
  have hnn : ∀ j, j < par.length → 0 ≤ (if i < j ∧ par.getD j 0 = (i : Int) then (minC (c s) (tabV c par kn S j) (tabV c par kn S j).length).1 else 0) := fun j hj => by
    split
    · exact ok.best_nonneg _ j hj
    · exact Int.le_refl _
  refine ⟨sumZ_nonneg fun j hj => hnn j (by omega), ?_⟩
  have h2 : ∀ m : Nat, m ≤ par.length → sumZ (fun j => if i < j ∧ par.getD j 0 = (i : Int) then (minC (c s) (tabV c par kn S j) (tabV c par kn S j).length).1 else 0) m ≤ sumZ (fun j => if i < j ∧ par.getD j 0 = (i : Int) then 1000 + topM par j else 0) m := fun m hm => sumZ_le fun j hj => by
    by_cases e : i < j ∧ par.getD j 0 = (i : Int)
    · rw [if_pos e, if_pos e]
      obtain ⟨q, h1, _, h3, h4⟩ := ok.best_own s j (by omega)
      have h5 := ok.at_le hc j q (by omega) h1
      have h6 := hc s q
      omega
    · rw [if_neg e, if_neg e]; exact Int.le_refl _
  have h3 := h2 k hk
  have h4 : ∀ d m : Nat, m + d = par.length → sumZ (fun j => if i < j ∧ par.getD j 0 = (i : Int) then 1000 + topM par j else 0) m ≤ sumZ (fun j => if i < j ∧ par.getD j 0 = (i : Int) then 1000 + topM par j else 0) par.length := by
    intro d
    induction d with
    | zero => intro m hm; rw [show m = par.length by omega]; exact Int.le_refl _
    | succ d ih =>
      intro m hm
      have := ih (m + 1) (by omega)
      rw [sumZ] at this
      have h7 : 0 ≤ (if i < m ∧ par.getD m 0 = (i : Int) then 1000 + topM par m else 0) := by
        split
        · have := ok.topM_nonneg m (by omega);omega
        · exact Int.le_refl _
      omega
  have h5 := h4 (par.length - k) k (by omega)
  rw [← ok.topM_sum i hi] at h5
  have h6 := ok.topM_le i hi
  omega
theorem TrOk.best_le (hc : ∀ a b, c a b ≤ 1000) (s i : Nat) (hi : i < par.length) : (minC (c s) (tabV c par kn S i) (tabV c par kn S i).length).1 ≤ 1000 + 1000 * (par.length : Int) := by
  obtain ⟨q, h1, _, h3, h4⟩ := ok.best_own s i hi
  have h5 := ok.at_le hc i q hi h1
  have h6 := hc s q
  have h7 := ok.topM_le i hi
  omega
end
end Go.Proofs.YtdigdmnnjbndlaaGreatDoor
namespace Go.Proofs.YtdigdmnnjbndlaaGreatDoor
open Go.RowKit
theorem kret {a b : Int} (h : a = b) : Ending.returned (.int .i64 a) = .returned (.int .i64 b) := by rw [h]
def kind (n : Int) : Int :=
  if (97 ≤ n ∧ n ≤ 122) ∨ (65 ≤ n ∧ n ≤ 90) then 1
  else if n = 94 ∨ n = 126 ∨ n = 37 then 2
  else if 48 ≤ n ∧ n ≤ 57 then 3
  else if n = 39 then 4
  else if n = 32 then 6
  else if n = 46 ∨ n = 44 ∨ n = 59 ∨ n = 58 ∨ n = 33 ∨ n = 63 ∨ n = 40 ∨ n = 41 ∨ n = 45 then 5
  else 0
theorem punct_at (n : Int) (h0 : 0 ≤ n) (h1 : n ≤ 255) : (0 ≤ Lib.indexByte [46, 44, 59, 58, 33, 63, 40, 41, 45] (UInt8.ofNat n.toNat)) ↔ (n = 46 ∨ n = 44 ∨ n = 59 ∨ n = 58 ∨ n = 33 ∨ n = 63 ∨ n = 40 ∨ n = 41 ∨ n = 45) := by
  obtain ⟨k, rfl⟩ := Int.eq_ofNat_of_zero_le h0
  have hk : k < 256 := by omega
  clear h0 h1
  have : ∀ k : Fin 256, (0 ≤ Lib.indexByte [46, 44, 59, 58, 33, 63, 40, 41, 45] (UInt8.ofNat (k.val : Int).toNat)) ↔ ((k.val : Int) = 46 ∨ (k.val : Int) = 44 ∨ (k.val : Int) = 59 ∨ (k.val : Int) = 58 ∨ (k.val : Int) = 33 ∨ (k.val : Int) = 63 ∨ (k.val : Int) = 40 ∨ (k.val : Int) = 41 ∨ (k.val : Int) = 45) := by decide +kernel
  exact this ⟨k, hk⟩
set_option maxHeartbeats 1000000 in
theorem kind_any (n : Int) (h0 : 0 ≤ n) (h1 : n ≤ 255) (w : World) :
    Calls Tryz.prog 158 #[.int .u8 n] w fun e w' => e = .returned (.int .i64 (kind n)) ∧ w = w' := by
  have HP := Lib.hid (punct_at n h0 h1)
  go_enter Tryz.func158, Tryz.ntmps158
  go_wp2_with (go_at_call 174; refine (Tryz.strings_IndexByte _ _ _).mono ?_; rintro e w' ⟨rfl, rfl⟩)
  all_goals
    go_ret
    refine ⟨kret ?_, rfl⟩
    have hp := HP.out
    try simp only [beq_iff_eq, beq_eq_false_iff_ne, bne_iff_ne, ne_eq, bne_eq_false_iff_eq] at *
    unfold kind
    first | (repeat' split) <;> omega | decide
end Go.Proofs.YtdigdmnnjbndlaaGreatDoor
namespace Go.Proofs.YtdigdmnnjbndlaaGreatDoor
open Go.RowKit
abbrev byts (s : ByteArray) : List UInt8 := s.data.toList
theorem byts_len (s : ByteArray) : (byts s).length = s.size := Array.length_toList
theorem byts_at (s : ByteArray) (k : Nat) (h : k < s.size) : (byts s)[k]'(by rw [byts_len]; exact h) = s[k] := rfl
def kindB (c : UInt8) : Int := kind c.toNat
theorem byte_bd (c : UInt8) : (0 : Int) ≤ (c.toNat : Int) ∧ (c.toNat : Int) ≤ 255 := by
  have := c.toNat_lt
  omega
def alnum (c : UInt8) : Bool := kindB c == 1 || kindB c == 3
def lets (l : List UInt8) : Nat := l.countP alnum
theorem lets_take (s : ByteArray) (k : Nat) (h : k < s.size) : lets ((byts s).take (k + 1)) = lets ((byts s).take k) + if alnum s[k] then 1 else 0 := by
  unfold lets
  rw [List.take_succ_eq_append_getElem (by rw [byts_len]; exact h), List.countP_append, byts_at s k h]
  by_cases ha : alnum s[k] = true
  · simp [ha]
  · simp [ha]
theorem lets_le (l : List UInt8) : lets l ≤ l.length := List.countP_le_length
theorem kindB_any (c : UInt8) (w : World) :
    Calls Tryz.prog 158 #[.int .u8 (c.toNat : Int)] w fun e w' => e = .returned (.int .i64 (kindB c)) ∧ w = w' :=
  kind_any _ (byte_bd c).1 (byte_bd c).2 w
set_option maxHeartbeats 1000000 in
theorem letters_any (s : ByteArray) (w : World) (hs : s.size ≤ 140737488355328) :
    Calls Tryz.prog 135 #[.string s] w fun e w' => e = .returned (.int .i64 (lets (byts s) : Nat)) ∧ w = w' := by
  go_enter Tryz.func135, Tryz.ntmps135
  go_wp2
  go_loop [3, 8] (fun n i => ∃ k : Nat, k ≤ s.size ∧ i = .int .i64 k ∧ n = .int .i64 (lets ((byts s).take k) : Nat)) (fun _ i => s.size - (intOf i).toNat)
  case atStart => exact ⟨0, Nat.zero_le _, rfl, rfl⟩
  case round =>
    obtain ⟨k, hk, rfl, rfl⟩ := hrel
    have hl := lets_le ((byts s).take k)
    have hl2 : ((byts s).take k).length ≤ k := List.length_take_le _ _
    by_cases hlt : k < s.size
    · have HS := Lib.hid (lets_take s k hlt)
      have hkb : alnum s[k] = (kindB s[k] == 1 || kindB s[k] == 3) := rfl
      have HK := Lib.hid hkb
      clear hkb
      go_wp2_with (go_at_call 158; refine (kindB_any _ _).mono ?_; rintro e w' ⟨rfl, rfl⟩)
      all_goals
        go_round
        case rel =>
          refine ⟨k + 1, by omega, by go_num, ?_⟩
          rw [HS.out, HK.out]
          go_light
          clear HS HK
          by_cases h1 : kindB s[k] = 1 <;> by_cases h3 : kindB s[k] = 3 <;> simp_all
        case measure => simp [intOf];omega
    · go_wp2
      go_ret
      exact ⟨ret_int (by rw [List.take_of_length_le (by rw [byts_len];omega)]), rfl⟩
theorem toList_nil (s : ByteArray) : s.toList = [] ↔ s.size = 0 := by
  rw [ByteArray.toList_eq]
  show byts s = [] ↔ s.size = 0
  rw [← List.length_eq_zero_iff, byts_len]
def isNm (s : ByteArray) : Bool := decide (0 < s.size) && (decide (s.size ≤ 16) && decide (lets (byts s) = s.size))
set_option maxHeartbeats 1000000 in
theorem isName_any (s : ByteArray) (w : World) (hs : s.size ≤ 140737488355328) :
    Calls Tryz.prog 103 #[.string s] w fun e w' => e = .returned (.bool (isNm s)) ∧ w = w' := by
  go_enter Tryz.func103, Tryz.ntmps103
  go_wp2_with (go_at_call 135; refine (letters_any _ _ hs).mono ?_; rintro e w' ⟨rfl, rfl⟩)
  · go_ret
    refine ⟨ret_bool ?_, rfl⟩
    have h0 := (toList_nil s).1 ‹_›
    simp [isNm, h0]
  · go_ret
    refine ⟨ret_bool ?_, rfl⟩
    have h0 : ¬ s.size = 0 := fun h => absurd ((toList_nil s).2 h) ‹_›
    have h1 : (s.size : Int) ≤ 16 := ‹_›
    have h2 : s.toList.isEmpty = false := by
      cases hh : s.toList with
      | nil => exact absurd ((toList_nil s).1 hh) h0
      | cons _ _ => rfl
    rw [h2, isNm, decide_eq_true (show 0 < s.size by omega), decide_eq_true (show s.size ≤ 16 by omega)]
    simp only [Bool.true_and, Bool.not_false]
    rw [Bool.eq_iff_iff]
    simp only [beq_iff_eq, decide_eq_true_eq]
    omega
  · go_ret
    refine ⟨ret_bool ?_, rfl⟩
    have h1 : 16 < (s.size : Int) := ‹_›
    rw [isNm, decide_eq_false (show ¬ s.size ≤ 16 by omega)]
    simp
end Go.Proofs.YtdigdmnnjbndlaaGreatDoor
namespace Go.Proofs.YtdigdmnnjbndlaaGreatDoor
open Go.RowKit
def starB (s : ByteArray) : Bool := (byts s).getLast? == some 42
theorem starB_at (s : ByteArray) (h : 0 < s.size) : starB s = ((s[s.size - 1].toNat : Int) == 42) := by
  unfold starB
  have hl := byts_len s
  rw [List.getLast?_eq_getElem?, hl, List.getElem?_eq_getElem (by omega), byts_at s (s.size - 1) (by omega)]
  rw [Bool.eq_iff_iff]
  simp only [beq_iff_eq, Option.some.injEq]
  constructor
  · intro e; rw [e]; rfl
  · intro e
    apply UInt8.toNat_inj.1
    show _ = 42
    omega
theorem starB_nil (s : ByteArray) (h : s.size = 0) : starB s = false := by
  unfold starB
  have : byts s = [] := List.eq_nil_of_length_eq_zero (by rw [byts_len]; exact h)
  rw [this]; rfl
def leafNm (s : ByteArray) : Bool := if starB s then decide (s.size ≤ 16) && isNm (s.extract 0 (s.size - 1)) else isNm s
theorem extract_size (s : ByteArray) (n : Nat) (h : n ≤ s.size) : (s.extract 0 n).size = n := by
  rw [ByteArray.size_extract];omega
set_option maxRecDepth 100000 in
set_option maxHeartbeats 1000000 in
theorem leafName_any (s : ByteArray) (w : World) (hs : s.size ≤ 140737488355328) :
    Calls Tryz.prog 65 #[.string s] w fun e w' => e = .returned (.bool (leafNm s)) ∧ w = w' := by
  by_cases h0 : 0 < s.size
  · have hx := extract_size s (s.size - 1) (by omega)
    have HX := Lib.hid hx; clear hx
    have hst := starB_at s h0
    cases hb : starB s with
    | true =>
      rw [hb] at hst
      have hc : ((s[s.size - 1].toNat : Int) == 42) = true := hst.symm
      clear hst
      have HB := Lib.hid hb; clear hb
      by_cases h16 : s.size ≤ 16
      · go_enter Tryz.func65, Tryz.ntmps65
        go_wp2_with (go_at_call 103; refine (isName_any _ _ (by rw [HX.out];omega)).mono ?_; rintro e w' ⟨rfl, rfl⟩)
        go_ret
        exact ⟨ret_bool (by rw [leafNm, if_pos HB.out, decide_eq_true h16]; simp), rfl⟩
      · go_enter Tryz.func65, Tryz.ntmps65
        go_wp2_with fail
        go_ret
        exact ⟨ret_bool (by rw [leafNm, if_pos HB.out, decide_eq_false h16]; simp), rfl⟩
    | false =>
      rw [hb] at hst
      have hc : ((s[s.size - 1].toNat : Int) == 42) = false := hst.symm
      clear hst
      have HB := Lib.hid hb; clear hb
      go_enter Tryz.func65, Tryz.ntmps65
      go_wp2_with (go_at_call 103; refine (isName_any _ _ hs).mono ?_; rintro e w' ⟨rfl, rfl⟩)
      go_ret
      exact ⟨ret_bool (by rw [leafNm, if_neg (by rw [HB.out]; simp)]), rfl⟩
  · have hb := starB_nil s (by omega)
    have HB := Lib.hid hb; clear hb
    go_enter Tryz.func65, Tryz.ntmps65
    go_wp2_with (go_at_call 103; refine (isName_any _ _ hs).mono ?_; rintro e w' ⟨rfl, rfl⟩)
    go_ret
    exact ⟨ret_bool (by rw [leafNm, if_neg (by rw [HB.out]; simp)]), rfl⟩
end Go.Proofs.YtdigdmnnjbndlaaGreatDoor
namespace Go.Proofs.YtdigdmnnjbndlaaGreatDoor
open Go.RowKit
def firstErr (f : Nat → Int) : Nat → Int
  | 0 => 0
  | n + 1 => if firstErr f n ≠ 0 then firstErr f n else f n
theorem firstErr_hit (f : Nat → Int) (k n : Nat) (h0 : firstErr f k = 0) (h1 : f k ≠ 0) (hk : k < n) : firstErr f n = f k := by
  induction n with
  | zero => omega
  | succ n ih =>
    rw [firstErr]
    rcases Nat.lt_or_ge k n with h | h
    · rw [ih h, if_pos h1]
    · obtain rfl : n = k := by omega
      rw [if_neg (by rw [h0]; simp)]
theorem firstErr_step (f : Nat → Int) (k : Nat) (h0 : firstErr f k = 0) (h1 : f k = 0) : firstErr f (k + 1) = 0 := by
  rw [firstErr, if_neg (by rw [h0]; simp), h1]
theorem firstErr_zero (f : Nat → Int) (n : Nat) (h : firstErr f n = 0) : ∀ k, k < n → f k = 0 := by
  induction n with
  | zero => intro k hk;omega
  | succ n ih =>
    rw [firstErr] at h
    by_cases h0 : firstErr f n = 0
    · rw [if_neg (by rw [h0]; simp)] at h
      intro k hk
      rcases Nat.lt_or_ge k n with h1 | h1
      · exact ih h0 k h1
      · obtain rfl : k = n := by omega
        exact h
    · rw [if_pos h0] at h; exact absurd h h0
def incB (xs : List Int) : Bool := decide (xs.Pairwise (· < ·))
theorem incB_of (xs : List Int) (h : ∀ j, 1 ≤ j → (hj : j < xs.length) → xs[j - 1] < xs[j]) : incB xs = true := by
  have key : ∀ d i, (hi : i + d + 1 < xs.length) → xs[i]'(by omega) < xs[i + d + 1] := by
    intro d
    induction d with
    | zero => intro i hi; have := h (i + 1) (by omega) hi; simpa using this
    | succ d ih =>
      intro i hi
      have h1 := ih i (by omega)
      have h2 := h (i + (d + 1) + 1) (by omega) hi
      simp only [Nat.add_sub_cancel] at h2
      have e : xs[i + (d + 1)]'(by omega) = xs[i + d + 1]'(by omega) := rfl
      omega
  unfold incB
  rw [decide_eq_true_eq, List.pairwise_iff_getElem]
  intro i j hi hj hij
  obtain ⟨d, rfl⟩ : ∃ d, j = i + d + 1 := ⟨j - i - 1, by omega⟩
  exact key d i hj
theorem incB_not (xs : List Int) (k : Nat) (h1 : 1 ≤ k) (hk : k < xs.length) (h : xs[k] ≤ xs[k - 1]) : incB xs = false := by
  unfold incB
  rw [decide_eq_false_iff_not, List.pairwise_iff_getElem]
  intro hp
  have := hp (k - 1) k (by omega) hk (by omega)
  omega
def rngB (xs : List Int) (i : Nat) : Bool := xs.any fun p => decide (p < 0) || decide ((i : Int) ≤ p)
def stAt (s : Stem) (i : Nat) : Int :=
  if leafNm (s.names.getD i ByteArray.empty) = false then 14
  else if Lib.containsS (s.names.take i) (s.names.getD i ByteArray.empty) = true then 7
  else if rngB (s.par.getD i []) i = true then 2
  else if incB (s.par.getD i []) = false then 10 else 0
def stCheck (s : Stem) : Int :=
  if s.names.length = 0 then 5 else if 64 < s.names.length then 4
  else if s.ext.length ≠ s.names.length ∨ s.par.length ≠ s.names.length then 9
  else firstErr (stAt s) s.names.length
theorem Strs.take {w : World} {a : Option Addr} {n cap : Nat} {xs : List ByteArray} (h : Strs w (.slice a n cap) xs) (k cap' : Nat) (hk : k ≤ xs.length) (hcap : k ≤ cap') : Strs w (.slice a k cap') (xs.take k) := by
  obtain ⟨⟨hl, ⟨a', c', hv, hc⟩, _⟩, h2⟩ := h
  simp only [Value.slice.injEq] at hv
  obtain ⟨rfl, rfl, rfl⟩ := hv
  have hlen : (xs.take k).length = k := by rw [List.length_take];omega
  refine ⟨⟨by omega, ⟨a, cap', by rw [hlen], ?_⟩, fun a1 m c hv => ?_⟩, fun s hs => h2 s (List.mem_of_mem_take hs)⟩
  case refine_2 =>
    simp only [Value.slice.injEq] at hv
    omega
  rw [hlen]
  rcases hc with h0 | ⟨b, off, ha, hc⟩
  · left;omega
  · right
    refine ⟨b, off, ha, fun j hj => ?_⟩
    rw [hc j (by omega)]
    have : (xs.take k).getD j ByteArray.empty = xs.getD j ByteArray.empty := by
      simp only [List.getD_eq_getElem?_getD, List.getElem?_take, if_pos (show j < k by omega)]
    rw [this]
set_option maxHeartbeats 1000000 in
theorem check1_any (x i : Int) (a : Addr) (w : World) (ha : w.cell? a = some (.int .i64 i)) :
    Calls Tryz.prog 67 #[.int .i64 x, .pointer (some a)] w fun e w' => e = .returned (.bool (decide (x < 0) || decide (i ≤ x))) ∧ w = w' := by
  by_cases h : x < 0
  · go_enter Tryz.func67, Tryz.ntmps67
    go_wp2
    go_ret
    exact ⟨ret_bool (by simp [h]), rfl⟩
  · by_cases h2 : i ≤ x
    · go_enter Tryz.func67, Tryz.ntmps67
      go_wp2
      go_ret
      exact ⟨ret_bool (by simp [h2]), rfl⟩
    · go_enter Tryz.func67, Tryz.ntmps67
      go_wp2
      go_ret
      exact ⟨ret_bool (by simp [h, h2]), rfl⟩
theorem check1_pred (i : Nat) (a : Addr) (w : World) (xs : List Int) (ha : w.cell? a = some (.int .i64 i)) : PredI 67 #[.pointer (some a)] w xs (fun p => decide (p < 0) || decide ((i : Int) ≤ p)) :=
  ⟨enters_of Tryz.func67 (by kernel_rfl) rfl, fun x _ w1 hq => (check1_any x i a w1 ((hq.cell a).trans ha)).mono fun e w' ⟨h1, h2⟩ => ⟨h1, Quiet.of_eq h2⟩⟩
theorem range_any (v : Value) (xs : List Int) (i : Nat) (a : Addr) (w : World) (h : Ints w v xs) (ha : w.cell? a = some (.int .i64 i)) :
    Calls Tryz.prog 66 #[v, .func (.func 67) #[] #[.pointer (some a)]] w fun e w' => e = .returned (.bool (rngB xs i)) ∧ Quiet w w' :=
  containsFunc_int v xs _ _ _ w h (check1_pred i a w xs ha)
end Go.Proofs.YtdigdmnnjbndlaaGreatDoor
namespace Go.Proofs.YtdigdmnnjbndlaaGreatDoor
def okPar (par : List (List Int)) : Prop := ∀ i, (h : i < par.length) → ∀ p ∈ par[i], 0 ≤ p ∧ p < i
theorem stCheck_len (s : Stem) (h : stCheck s = 0) : s.names.length ≠ 0 ∧ s.names.length ≤ 64 ∧ s.ext.length = s.names.length ∧ s.par.length = s.names.length ∧ firstErr (stAt s) s.names.length = 0 := by
  unfold stCheck at h
  by_cases h0 : s.names.length = 0
  · rw [if_pos h0] at h;omega
  rw [if_neg h0] at h
  by_cases h64 : 64 < s.names.length
  · rw [if_pos h64] at h;omega
  rw [if_neg h64] at h
  by_cases hl : s.ext.length ≠ s.names.length ∨ s.par.length ≠ s.names.length
  · rw [if_pos hl] at h;omega
  rw [if_neg hl] at h
  exact ⟨h0, by omega, by omega, by omega, h⟩
theorem stAt_zero (s : Stem) (i : Nat) (hi : i < s.names.length) (hp : i < s.par.length) (h : stAt s i = 0) :
    leafNm s.names[i] = true ∧ Lib.containsS (s.names.take i) s.names[i] = false ∧ (∀ p ∈ s.par[i], 0 ≤ p ∧ p < i) ∧ s.par[i].Pairwise (· < ·) := by
  have hst : stAt s i = if leafNm s.names[i] = false then 14 else if Lib.containsS (s.names.take i) s.names[i] = true then 7 else if rngB s.par[i] i = true then 2 else if incB s.par[i] = false then 10 else 0 := by
    rw [stAt]; simp [hi, hp]
  rw [hst] at h
  cases h1 : leafNm s.names[i] with
  | false => rw [if_pos h1] at h;omega
  | true =>
    rw [if_neg (by rw [h1]; simp)] at h
    cases h2 : Lib.containsS (s.names.take i) s.names[i] with
    | true => rw [if_pos h2] at h;omega
    | false =>
      rw [if_neg (by rw [h2]; simp)] at h
      cases h3 : rngB s.par[i] i with
      | true => rw [if_pos h3] at h;omega
      | false =>
        rw [if_neg (by rw [h3]; simp)] at h
        cases h4 : incB s.par[i] with
        | false => rw [if_pos h4] at h;omega
        | true =>
          refine ⟨rfl, rfl, fun p hp => ?_, by simpa [incB] using h4⟩
          rw [rngB, List.any_eq_false] at h3
          have := h3 p hp
          simp at this
          omega
theorem stCheck_okPar (s : Stem) (h : stCheck s = 0) : okPar s.par := by
  obtain ⟨_, _, _, hp, hf⟩ := stCheck_len s h
  intro i hi p hpi
  have h0 := firstErr_zero _ _ hf i (by omega)
  exact (stAt_zero s i (by omega) hi h0).2.2.1 p hpi
end Go.Proofs.YtdigdmnnjbndlaaGreatDoor
