/-
  Part 23 of the proof: Rp39. No statement of the seat is proved here.
-/
import Derived.Test.YtmclgfipdgmomaaGreatMHPlaces22
namespace Go.Proofs.YtmclgfipdgmomaaGreat
theorem kpt_eq (i n : Nat) : kpt i n = if i < n then List.range i ++ (List.range (n - 1 - i)).map (fun j => i + 1 + j) else List.range n := by
  induction n with
  | zero => simp [kpt]
  | succ n ih =>
    rw [kpt_step, ih]
    by_cases h : i < n
    · rw [if_pos h, if_neg (by omega : ¬ n = i), if_pos (by omega), List.append_assoc]
      congr 1
      obtain ⟨d, rfl⟩ : ∃ d, n = i + 1 + d := ⟨n - i - 1, by omega⟩
      rw [show i + 1 + d - 1 - i = d by omega, show i + 1 + d + 1 - 1 - i = d + 1 by omega, List.range_succ, List.map_append]
      rfl
    · rw [if_neg h]
      by_cases h2 : n = i
      · subst h2
        rw [if_pos rfl, if_pos (by omega), List.append_nil, show n + 1 - 1 - n = 0 by omega]
        simp
      · rw [if_neg h2, if_neg (by omega), ← List.range_succ]
theorem kpt_length (i n : Nat) (h : i < n) : (kpt i n).length = n - 1 := by
  rw [kpt_eq, if_pos h, List.length_append, List.length_map, List.length_range, List.length_range]
  omega
def upN (i k : Nat) : Nat := if k < i then k else k + 1
theorem kpt_at (i n k : Nat) (h : i < n) (hk : k < n - 1) : (kpt i n).getD k 0 = upN i k := by
  rw [kpt_eq, if_pos h]
  unfold upN
  by_cases h1 : k < i
  · rw [if_pos h1, List.getD_eq_getElem?_getD, List.getElem?_append_left (by simpa using h1)]
    simp [h1]
  · rw [if_neg h1, List.getD_eq_getElem?_getD, List.getElem?_append_right (by simp;omega)]
    simp only [List.length_range, List.getElem?_map]
    rw [List.getElem?_range (by omega)]
    simp;omega
theorem upN_lt (i n k : Nat) (h : i < n) (hk : k < n - 1) : upN i k < n := by unfold upN; split <;> omega
theorem upN_inj (i j k : Nat) (h : j < k) : upN i j < upN i k := by unfold upN; split <;> split <;> omega
theorem remS_names (s : Stem) (i k : Nat) (h : i < s.names.length) (hk : k < s.names.length - 1) : (remS s i).names.getD k ByteArray.empty = s.names.getD (upN i k) ByteArray.empty := by
  have hl := kpt_length i s.names.length h
  unfold remS
  rw [getD_lt _ _ _ (by simp;omega), List.getElem_map, ← getD_lt _ _ 0 (by omega), kpt_at _ _ _ h hk]
theorem remS_par (s : Stem) (i k : Nat) (h : i < s.names.length) (hk : k < s.names.length - 1) : (remS s i).par.getD k [] = remL s i (upN i k) := by
  have hl := kpt_length i s.names.length h
  unfold remS
  rw [getD_lt _ _ _ (by simp;omega), List.getElem_map, ← getD_lt _ _ 0 (by omega), kpt_at _ _ _ h hk]
theorem remS_len (s : Stem) (i : Nat) (h : i < s.names.length) : (remS s i).names.length = s.names.length - 1 ∧ (remS s i).ext.length = s.names.length - 1 ∧ (remS s i).par.length = s.names.length - 1 := by
  have hl := kpt_length i s.names.length h
  unfold remS
  refine ⟨?_, ?_, ?_⟩ <;> simp [hl]
theorem remC_mem (s : Stem) (i k : Nat) (y : Int) : y ∈ remC s i k ↔ (y ∈ s.par.getD k [] ∧ y ≠ (i : Int)) ∨ ((i : Int) ∈ s.par.getD k [] ∧ y ∈ s.par.getD i []) := by
  unfold remC
  rw [compact_mem, srtL_mem, expL_mem]
theorem remL_mem (s : Stem) (i k : Nat) (x : Int) : x ∈ remL s i k ↔ ∃ y ∈ remC s i k, decI i y = x := by
  unfold remL
  rw [List.mem_map]
theorem okPar_getD {par : List (List Int)} (h : okPar par) (k : Nat) : ∀ p ∈ par.getD k [], 0 ≤ p ∧ p < k := fun p hp => by
  by_cases hk : k < par.length
  · rw [getD_lt _ _ _ hk] at hp; exact h k hk p hp
  · rw [getD_ge _ _ _ (by omega)] at hp; simp at hp
theorem remC_rng {s : Stem} (hok : okPar s.par) (i k : Nat) (y : Int) (hy : y ∈ remC s i k) : 0 ≤ y ∧ y < k ∧ y ≠ (i : Int) := by
  rcases (remC_mem s i k y).1 hy with ⟨h1, h2⟩ | ⟨h1, h2⟩
  · have := okPar_getD hok k y h1
    exact ⟨this.1, this.2, h2⟩
  · have a := okPar_getD hok k _ h1
    have b := okPar_getD hok i y h2
    omega
theorem remL_asc {s : Stem} (hok : okPar s.par) (i k : Nat) : (remL s i k).Pairwise (· < ·) := by
  have h1 : (remC s i k).Pairwise (· < ·) := compact_asc _ (srtL_le _)
  unfold remL
  rw [List.pairwise_map]
  have key : ∀ l : List Int, (∀ y ∈ l, y ≠ (i : Int)) → l.Pairwise (· < ·) → l.Pairwise (fun a b => decI i a < decI i b) := by
    intro l
    induction l with
    | nil => intro _ _; exact List.Pairwise.nil
    | cons a l ih =>
      intro hn hp
      rw [List.pairwise_cons] at hp ⊢
      refine ⟨fun b hb => ?_, ih (fun y hy => hn y (by simp [hy])) hp.2⟩
      have h2 := hp.1 b hb
      have h3 := hn a (by simp)
      have h4 := hn b (by simp [hb])
      unfold decI
      split <;> split <;> omega
  exact key _ (fun y hy => (remC_rng hok i k y hy).2.2) h1
theorem stAt_of (s : Stem) (k : Nat) (h1 : leafNm (s.names.getD k ByteArray.empty) = true) (h2 : Lib.containsS (s.names.take k) (s.names.getD k ByteArray.empty) = false) (h3 : ∀ p ∈ s.par.getD k [], 0 ≤ p ∧ p < k) (h4 : (s.par.getD k []).Pairwise (· < ·)) : stAt s k = 0 := by
  unfold stAt
  rw [if_neg (by rw [h1]; simp), if_neg (by rw [h2]; simp), if_neg ?_, if_neg ?_]
  · unfold incB; simpa using h4
  · unfold rngB
    rw [List.any_eq_true]
    rintro ⟨p, hp, hb⟩
    have := h3 p hp
    simp at hb
    omega
theorem stCheck_of (s : Stem) (h0 : s.names.length ≠ 0) (h1 : s.names.length ≤ 64) (h2 : s.ext.length = s.names.length) (h3 : s.par.length = s.names.length) (h : ∀ k, k < s.names.length → stAt s k = 0) : stCheck s = 0 := by
  unfold stCheck
  rw [if_neg h0, if_neg (by omega), if_neg (by omega)]
  exact firstErr_all _ _ h
theorem remS_check (s : Stem) (i : Nat) (hc : stCheck s = 0) (hi : i < s.names.length) (h1 : 1 < s.names.length) : stCheck (remS s i) = 0 := by
  obtain ⟨_, h64, he, hp, hf⟩ := stCheck_len s hc
  have hok := stCheck_okPar s hc
  obtain ⟨l1, l2, l3⟩ := remS_len s i hi
  refine stCheck_of _ (by omega) (by omega) (by omega) (by omega) fun k hk => ?_
  have hk' : k < s.names.length - 1 := by omega
  have hu := upN_lt i _ k hi hk'
  have hz := stAt_zero s (upN i k) hu (by omega) (firstErr_zero _ _ hf _ hu)
  rw [← getD_lt _ _ ByteArray.empty hu] at hz
  refine stAt_of _ _ ?_ ?_ ?_ ?_
  · rw [remS_names s i k hi hk']; exact hz.1
  · rw [remS_names s i k hi hk']
    have hz2 := hz.2.1
    rw [Bool.eq_false_iff] at hz2 ⊢
    rw [Ne, Lib.containsS_iff] at hz2 ⊢
    intro hm
    apply hz2
    obtain ⟨j, hj, e⟩ := List.getElem_of_mem hm
    rw [List.length_take] at hj
    have hjk : j < k := by omega
    rw [List.getElem_take, ← getD_lt _ _ ByteArray.empty (by omega), remS_names s i j hi (by omega)] at e
    have := upN_inj i j k hjk
    rw [← e, getD_lt _ _ _ (by omega), List.mem_take_iff_getElem]
    exact ⟨upN i j, by omega, rfl⟩
  · intro p hp2
    rw [remS_par s i k hi hk', remL_mem] at hp2
    obtain ⟨y, hy, rfl⟩ := hp2
    have := remC_rng hok i _ y hy
    unfold decI
    unfold upN at this
    split <;> split at this <;> omega
  · rw [remS_par s i k hi hk']
    exact remL_asc hok i _
def derB (s : Stem) (k : Nat) : Bool := decide ((s.par.getD k []).length = 1) && s.ext.getD ((s.par.getD k []).getD 0 0).toNat false
def fdr (s : Stem) : Option Nat := (List.range s.par.length).find? (derB s)
theorem fdr_some {s : Stem} {i : Nat} (h : fdr s = some i) : i < s.par.length ∧ derB s i = true ∧ ∀ j, j < i → derB s j = false := by
  unfold fdr at h
  rw [List.find?_range_eq_some] at h
  exact ⟨by simpa using h.2.1, h.1, fun j hj => by simpa using h.2.2 j hj⟩
theorem fdr_of {s : Stem} {i : Nat} (h1 : i < s.par.length) (h2 : derB s i = true) (h3 : ∀ j, j < i → derB s j = false) : fdr s = some i := by
  unfold fdr
  rw [List.find?_range_eq_some]
  exact ⟨h2, by simpa using h1, fun j hj => by simpa using h3 j hj⟩
theorem fdr_no {s : Stem} (h : ∀ j, j < s.par.length → derB s j = false) : fdr s = none := by
  unfold fdr
  rw [List.find?_eq_none]
  exact fun j hj => by simpa using h j (List.mem_range.1 hj)
theorem derB_pos {s : Stem} {i : Nat} (hok : okPar s.par) (h : derB s i = true) : 0 < i := by
  unfold derB at h
  rw [Bool.and_eq_true, decide_eq_true_eq] at h
  have := okPar_getD hok i _ (show (s.par.getD i []).getD 0 0 ∈ s.par.getD i [] by rw [getD_lt (s.par.getD i []) 0 0 (by omega)]; exact List.getElem_mem _)
  omega
def elm : Nat → Stem → List Int → Stem × List Int
  | 0, s, old => (s, old)
  | n + 1, s, old => match fdr s with
    | none => (s, old)
    | some i => elm n (remS s i) (old.eraseIdx i)
def nums (n : Nat) : List Int := (List.range n).map fun i : Nat => (i : Int)
def elmS (s : Stem) : Stem × List Int := elm s.names.length s (nums s.names.length)
theorem elm_none {s : Stem} (h : fdr s = none) (n : Nat) (old : List Int) : elm n s old = (s, old) := by
  cases n with
  | zero => rfl
  | succ n => rw [elm, h]
theorem elm_some {s : Stem} {i : Nat} (h : fdr s = some i) (n : Nat) (old : List Int) : elm (n + 1) s old = elm n (remS s i) (old.eraseIdx i) := by
  rw [elm, h]
end Go.Proofs.YtmclgfipdgmomaaGreat
