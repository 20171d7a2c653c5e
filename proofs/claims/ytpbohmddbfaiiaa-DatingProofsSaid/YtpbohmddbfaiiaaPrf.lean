/-
  Plain laws: what dating.path finds is a contradiction, and a contradiction denies consistency. No statement of the seat is proved here.
-/
import Derived.Test.YtpbohmddbfaiiaaVer
namespace Go.Proofs.Ytpbohmddbfaiiaa
open Go.RowKit Go.Maps

/-- A list of nodes, each a parent of the next one, from q to b. -/
inductive Chn (par : List (List Int)) (b : Nat) : Nat → List Int → Prop
  | one : Chn par b b [(b : Int)]
  | more (q k : Nat) (r : List Int) : q < k → k < par.length → (q : Int) ∈ par.getD k [] → Chn par b k r → Chn par b q ((q : Int) :: r)
theorem find_hit (P : Int → Bool) (xs : List Int) (x : Int) (hx : x ∈ xs) (hp : P x = true) : ∃ y, xs.find? P = some y ∧ y ∈ xs ∧ P y = true := by
  cases h : xs.find? P with
  | none => rw [List.find?_eq_none] at h; exact absurd hp (h x hx)
  | some y => exact ⟨y, rfl, List.mem_of_find?_eq_some h, List.find?_some h⟩
theorem pthR_chn (par : List (List Int)) (hok : okPar par) (b : Nat) (hb : b < par.length) : ∀ (f q : Nat), b - q < f → Rch par b q → Chn par b q ((q : Int) :: pthR par par.length b (leads par b) f q) := by
  have hs := ldA_spec par b hok hb b (Nat.le_refl _)
  intro f
  induction f with
  | zero => intro q h; omega
  | succ f ih =>
    intro q hf hr
    rw [pthR]
    by_cases hq : q = b
    · rw [if_pos hq, hq]; exact .one
    · rw [if_neg hq]
      cases hr with
      | here => exact absurd rfl hq
      | up _ k h1 h2 h3 h4 =>
        have hkb := h4.le
        obtain ⟨y, e, hy, hp⟩ := find_hit (onB b (leads par b)) (CP par q par.length 0) (k : Int) ((CP_mem _ _ _ _).2 ⟨k, h2, rfl, h3⟩) (by
          simp only [onB, Bool.and_eq_true, decide_eq_true_eq, Int.toNat_natCast]
          exact ⟨by omega, (hs k (by omega)).2 h4⟩)
        obtain ⟨j, hj, rfl, hm⟩ := (CP_mem _ _ _ _).1 hy
        have hqj : q < j := by
          have := hok j hj (q : Int) (by simpa [hj] using hm)
          omega
        simp only [onB, Bool.and_eq_true, decide_eq_true_eq, Int.toNat_natCast] at hp
        rw [e]
        refine .more q j _ hqj hj hm ?_
        have := ih j (by omega) ((hs j (by omega)).1 hp.2)
        simpa using this
theorem Chn.rch {par : List (List Int)} {b q : Nat} {l : List Int} (h : Chn par b q l) : Rch par b q := by
  induction h with
  | one => exact .here
  | more q k r h1 h2 h3 _ ih => exact .up q k h1 h2 h3 ih
theorem hasI_iff (xs : List Int) (x : Int) : hasI xs x = true ↔ x ∈ xs := by simp [hasI]
theorem Chn.facts {par : List (List Int)} {b q : Nat} {l : List Int} (hb : b < par.length) (h : Chn par b q l) : 0 < l.length ∧ l.getD 0 0 = (q : Int) ∧ l.getD (l.length - 1) 0 = (b : Int) ∧ q < par.length ∧ (∀ i, i < l.length → 0 ≤ l.getD i 0 ∧ l.getD i 0 < par.length) ∧
    ∀ i, 0 < i → i < l.length → l.getD (i - 1) 0 ∈ par.getD (l.getD i 0).toNat [] := by
  induction h with
  | one =>
    refine ⟨by simp, rfl, rfl, hb, fun i hi => ?_, fun i h1 h2 => ?_⟩
    · obtain rfl : i = 0 := by simpa using hi
      show 0 ≤ (b : Int) ∧ (b : Int) < par.length
      omega
    · simp at h2; omega
  | more q k r h1 h2 h3 _ ih =>
    obtain ⟨a1, a2, a3, a4, a5, a6⟩ := ih
    refine ⟨by simp, rfl, ?_, by omega, fun i hi => ?_, fun i hi1 hi2 => ?_⟩
    · obtain ⟨m, hm⟩ : ∃ m, r.length = m + 1 := ⟨r.length - 1, by omega⟩
      rw [List.length_cons, hm]
      rw [hm] at a3
      exact a3
    · cases i with
      | zero => show 0 ≤ (q : Int) ∧ (q : Int) < par.length; omega
      | succ i => exact a5 i (by simpa using hi)
    · cases i with
      | zero => omega
      | succ i =>
        cases i with
        | zero =>
          show (q : Int) ∈ par.getD (r.getD 0 0).toNat []
          rw [a2, Int.toNat_natCast]; exact h3
        | succ i => exact a6 (i + 1) (by omega) (by simpa using hi2)
theorem verN_path (s : Stem) (ds : List Dt) (h : dCheck s ds = 0) (a b : Nat) (hb : b < s.names.length) (hbad : bad s ds a b = true) : verN s ds (pathL s.par a b) = 0 ∧ 0 < (pathL s.par a b).length := by
  have hs := (dCheck_zero s ds h).1
  obtain ⟨_, _, _, hpl, _⟩ := stCheck_len s hs
  have hok := stCheck_okPar s hs
  have hbad2 := hbad
  rw [bad, Bool.and_eq_true, decide_eq_true_eq, leads_iff s hs a b hb] at hbad2
  have hab := hbad2.2.le
  have hc := pthR_chn s.par hok b (by omega) s.par.length a (by omega) hbad2.2
  obtain ⟨a1, a2, a3, a4, a5, a6⟩ := hc.facts (by omega)
  have hL : pathL s.par a b = (a : Int) :: pthR s.par s.par.length b (leads s.par b) s.par.length a := rfl
  rw [← hL] at a1 a2 a3 a5 a6
  refine ⟨?_, a1⟩
  rw [verN_end s ds _ h (by omega) fun i hi => ?_, a2, a3, Int.toNat_natCast, Int.toNat_natCast, if_neg (by omega)]
  have h5 := a5 i hi
  rw [verB, decide_eq_false (by omega), decide_eq_false (by omega)]
  by_cases hi0 : 0 < i
  · rw [(hasI_iff _ _).2 (a6 i hi0 hi)]; simp
  · rw [decide_eq_false hi0]; simp
theorem verN_bad (s : Stem) (ds : List Dt) (l : List Int) (h : dCheck s ds = 0) (hv : verN s ds l = 0) : ¬ noBad s ds s.names.length 0 := by
  intro hno
  have hs := (dCheck_zero s ds h).1
  obtain ⟨_, _, _, hpl, _⟩ := stCheck_len s hs
  have hok := stCheck_okPar s hs
  by_cases hl : l.length = 0
  · rw [verN, if_neg (by rw [h]; simp), if_pos hl] at hv; omega
  by_cases hh : ∃ k, k < l.length ∧ verB s l k = true
  · obtain ⟨k, hk, hb⟩ := hh
    rw [verN_hit s ds l h k hk hb] at hv; omega
  have hall : ∀ i, i < l.length → verB s l i = false := fun i hi => by
    cases hb : verB s l i with
    | true => exact absurd ⟨i, hi, hb⟩ hh
    | false => rfl
  have hin : ∀ i, i < l.length → 0 ≤ l.getD i 0 ∧ l.getD i 0 < s.names.length ∧ (0 < i → l.getD (i - 1) 0 ∈ s.par.getD (l.getD i 0).toNat []) := fun i hi => by
    have := hall i hi
    rw [verB, Bool.or_eq_false_iff, Bool.or_eq_false_iff, decide_eq_false_iff_not, decide_eq_false_iff_not, Bool.and_eq_false_iff, decide_eq_false_iff_not] at this
    refine ⟨by omega, by omega, fun h0 => ?_⟩
    rcases this.2.2 with h1 | h1
    · exact absurd h0 h1
    · rw [Bool.not_eq_false'] at h1
      exact (hasI_iff _ _).1 h1
  have hr : ∀ i, i < l.length → Rch s.par (l.getD i 0).toNat (l.getD 0 0).toNat := by
    intro i
    induction i with
    | zero => intro _; exact .here
    | succ i ih =>
      intro hi
      have h1 := hin i (by omega)
      have h2 := hin (i + 1) hi
      have h3 := h2.2.2 (by omega)
      simp only [Nat.add_sub_cancel] at h3
      have hX : (l.getD (i + 1) 0).toNat < s.par.length := by omega
      have h4 := hok (l.getD (i + 1) 0).toNat hX (l.getD i 0) (by rw [← getD_lt s.par _ [] hX]; exact h3)
      exact Rch.snoc (p := (l.getD i 0).toNat) (by omega) (by omega) (by rw [Int.toNat_of_nonneg h1.1]; exact h3) (ih (by omega))
  rw [verN_end s ds l h hl hall] at hv
  split at hv
  · omega
  · rename_i hlt
    have h1 := hin 0 (by omega)
    have h2 := hin (l.length - 1) (by omega)
    have hr1 := hr (l.length - 1) (by omega)
    have hle := hr1.le
    by_cases he : (l.getD 0 0).toNat = (l.getD (l.length - 1) 0).toNat
    · rw [he] at hlt
      exact hlt (lo_hi s ds h _ (by omega))
    · have hb := hno (l.getD 0 0).toNat (l.getD (l.length - 1) 0).toNat (by omega) (by omega) (by omega)
      rw [bad, (leads_iff s hs _ _ (by omega)).2 hr1, Bool.and_true, decide_eq_false_iff_not] at hb
      omega
end Go.Proofs.Ytpbohmddbfaiiaa
