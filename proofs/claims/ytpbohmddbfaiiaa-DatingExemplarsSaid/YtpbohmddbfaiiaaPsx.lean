/-
  A further exemplar and the years: plain laws. No statement of the seat is proved here.
-/
import Derived.Test.YtpbohmddbfaiiaaPos
namespace Go.Proofs.Ytpbohmddbfaiiaa
open Go.RowKit Go.Maps

theorem consB_iff (n : Nat) (xs ys : List Int) : consB n xs ys = true ↔ ∀ i, i < n → xs.getD i 0 ≤ ys.getD i 0 := by
  rw [consB, List.all_eq_true]
  constructor
  · intro h i hi
    simpa using h i (List.mem_range.2 hi)
  · intro h i hi
    simpa using h i (List.mem_range.1 hi)
/-- The exemplars with the further one. -/
theorem extS_mem {s : Stem} {c p : Int} (h : extE s c p = 0) (i : Nat) (hi : i < (extS s c p).par.length) (hi' : i < s.par.length) (q : Int) : q ∈ (extS s c p).par[i] ↔ q ∈ s.par[i] ∨ ((i : Int) = c ∧ q = p) := by
  obtain ⟨h0, h1, h2, h3, _⟩ := extE_zero h
  obtain ⟨_, hn64, _, hpl, _⟩ := stCheck_len s h0
  have hok := stCheck_okPar s h0 i hi'
  simp only [extS]
  by_cases e : c.toNat = i
  · subst e
    rw [List.getElem_set_self, extP, srtK_mem, List.mem_cons, getD_lt _ _ _ hi']
    constructor
    · rintro ⟨rfl | hq, _⟩
      · exact .inr ⟨by omega, rfl⟩
      · exact .inl hq
    · rintro (hq | ⟨_, rfl⟩)
      · have := hok q hq; exact ⟨.inr hq, by omega, by omega⟩
      · exact ⟨.inl rfl, by omega, by omega⟩
  · rw [List.getElem_set_ne e]
    constructor
    · exact .inl
    · rintro (hq | ⟨h5, _⟩)
      · exact hq
      · omega
theorem pos_law (s : Stem) (ds : List Dt) (c p : Int) (h0 : dCheck s ds = 0) (he : extE s c p = 0) : posB s ds c p = (decide (yErr s ds = 0) && decide ((eYrs s ds).getD p.toNat 0 ≤ (lYrs s ds).getD c.toNat 0)) := by
  obtain ⟨hst, hp0, hpc, hcn, _⟩ := extE_zero he
  obtain ⟨_, hn64, _, hpl, _⟩ := stCheck_len s hst
  have hok := stCheck_okPar s hst
  have hcp : c < s.par.length := by omega
  obtain ⟨hok', hl'⟩ := extS_ok he
  have hlo := loOf_len s.names.length ds
  have hhi := hiOf_len s.names.length ds
  have hmem := fun i hi hi' q => extS_mem he i hi hi' q
  have hcl := cons_eq s ds hst
  have hye : yErr s ds = if consB s.names.length (eYrs s ds) (lYrs s ds) = true then 0 else 25 := by rw [yErr, if_neg (by rw [h0]; simp)]
  unfold posB
  unfold eYrs lYrs at *
  generalize hP : (extS s c p).par = par' at *
  generalize hL : loOf s.names.length ds = lo at *
  generalize hH : hiOf s.names.length ds = hi at *
  rw [← hpl] at *
  generalize hN : s.par = par at *
  obtain ⟨_, e2, e3, _⟩ := earl_spec par lo hok hlo par.length (Nat.le_refl _)
  obtain ⟨_, f2, f3, _⟩ := earl_spec par' lo hok' (by omega) par'.length (Nat.le_refl _)
  obtain ⟨_, l2, l3, l4⟩ := late_spec par hok par.length hi (Nat.le_refl _) hhi
  have hle := earl_least par lo hok hlo
  have hle' := earl_least par' lo hok' (by omega)
  rw [show earl par' lo par.length = earl par' lo par'.length by rw [hl']]
  generalize hE : earl par lo par.length = e at *
  generalize hF : earl par' lo par'.length = f at *
  generalize hM : late par hi par.length = l at *
  -- whatever fits with the further exemplar fits without it
  have hef : ∀ i, i < par.length → e.getD i 0 ≤ f.getD i 0 := hle (fun i => f.getD i 0) (fun i _ => f2 i) (fun i hi q hq => f3 i (by omega) (by omega) q ((hmem i (by omega) hi q).2 (.inl hq)))
  rw [Bool.eq_iff_iff, consB_iff, Bool.and_eq_true, decide_eq_true_eq, decide_eq_true_eq, hye]
  constructor
  · intro hf
    have hc : consB par.length e l = true := by
      rw [← hcl, consB_iff]
      intro i hi
      have := hef i hi
      have := hf i hi
      omega
    refine ⟨by rw [if_pos hc], ?_⟩
    have hfl := l4 (fun j => if j < par.length then f.getD j 0 else hi.getD j 0) (fun j => by
      split
      · exact hf j ‹_›
      · exact Int.le_refl _) (fun i hi _ q hq => by
      have hq0 := hok i hi q hq
      rw [if_pos (by omega), if_pos hi]
      exact f3 i (by omega) (by omega) q ((hmem i (by omega) hi q).2 (.inl hq))) c.toNat
    rw [if_pos (by omega)] at hfl
    have h1 := hef p.toNat (by omega)
    have h2 := f3 c.toNat (by omega) (by omega) p ((hmem c.toNat (by omega) (by omega) p).2 (.inr ⟨by omega, rfl⟩))
    omega
  · rintro ⟨hy, hec⟩
    have hc : ∀ i, i < par.length → e.getD i 0 ≤ l.getD i 0 := by
      rw [← consB_iff]
      cases hb : consB par.length e l with
      | true => rfl
      | false => rw [hb] at hy; simp at hy
    intro i hi
    have h1 := hle' (fun j => max (e.getD j 0) (min (e.getD p.toNat 0) (l.getD j 0))) (fun j _ => by have := e2 j; omega) (fun j hj' q hq => by
      have hj : j < par.length := by omega
      rcases (hmem j (by omega) hj q).1 hq with hq | ⟨h5, rfl⟩
      · have a := e3 j hj hj q hq
        have b := l3 j hj hj q hq
        omega
      · have h6 : c.toNat = j := by omega
        rw [h6] at hec
        omega) i (by omega)
    have h2 := hc i hi
    have h3 := l2 i
    omega
#print axioms pos_law
end Go.Proofs.Ytpbohmddbfaiiaa
