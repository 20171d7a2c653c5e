/-
  Part 31 of the proof: Ta39. No statement of the seat is proved here.
-/
import Derived.Test.YtdigdmnnjbndlaaGreatDoorMHTa3930
namespace Go.Proofs.YtdigdmnnjbndlaaGreatDoor
open Go.RowKit
def ownF (f : Nat → Int) (k : Nat) : List Int := (List.range k).map f
theorem ownF_step (f : Nat → Int) (k : Nat) : ownF f (k + 1) = ownF f k ++ [f k] := by
  unfold ownF; rw [List.range_succ, List.map_append]; rfl
theorem ownF_len (f : Nat → Int) (k : Nat) : (ownF f k).length = k := by simp [ownF]
theorem ownF_at (f : Nat → Int) (N k : Nat) (h : k < N) : (ownF f N).getD k 0 = f k := by simp [ownF, h]
def stF (t : Tre) (f : Nat → Int) (k : Nat) : List Int := (List.range t.par.length).map fun i : Nat => if 0 ≤ Lib.idxOf (lvs t) (i : Int) ∧ Lib.idxOf (lvs t) (i : Int) < (k : Int) then f (Lib.idxOf (lvs t) (i : Int)).toNat else -1
theorem stF_len (t : Tre) (f : Nat → Int) (k : Nat) : (stF t f k).length = t.par.length := by simp [stF]
theorem stF_zero (t : Tre) (f : Nat → Int) : stF t f 0 = List.replicate t.par.length (-1) := by
  refine List.ext_getElem (by simp [stF]) fun j h1 h2 => ?_
  simp only [stF, List.getElem_map, List.getElem_range, List.getElem_replicate]
  rw [if_neg (by omega)]
theorem stF_step (t : Tre) (f : Nat → Int) (k q : Nat) (hk : k < (lvs t).length) (hq : (lvs t).getD k 0 = (q : Int)) : (stF t f k).set q (f k) = stF t f (k + 1) := by
  refine List.ext_getElem (by simp [stF]) fun j h1 h2 => ?_
  rw [List.getElem_set]
  have hi := lvs_idx t k hk (j : Int)
  simp only [stF, List.getElem_map, List.getElem_range]
  by_cases e : q = j
  · subst e
    have := hi.2 hq
    rw [if_pos rfl, if_pos (by omega), this]
    rfl
  · rw [if_neg e]
    have : Lib.idxOf (lvs t) (j : Int) ≠ (k : Int) := fun h => e (by have := hi.1 h;omega)
    by_cases h : 0 ≤ Lib.idxOf (lvs t) (j : Int) ∧ Lib.idxOf (lvs t) (j : Int) < (k : Int)
    · rw [if_pos h, if_pos (by omega)]
    · rw [if_neg h, if_neg (by omega)]
theorem stF_end (t : Tre) (f : Nat → Int) : stF t f (lvs t).length = nodS t (ownF f (lvs t).length) := by
  unfold stF nodS
  refine List.map_congr_left fun i _ => ?_
  unfold knT
  have hr := idxOf_rng (lvs t) (i : Int)
  by_cases h : 0 ≤ Lib.idxOf (lvs t) (i : Int)
  · rw [if_pos (by omega), if_pos h]
    have : (Lib.idxOf (lvs t) (i : Int)).toNat < (lvs t).length := by omega
    simp [ownF, this]
  · rw [if_neg (by omega), if_neg h]
def pkT (ps : List Int) (q : Nat) : Int := if q < ps.length then max ((ps.getD q 0).tmod 4) (-1) else -1
theorem tmod4 (x : Int) : x.tmod 4 < 4 := Int.tmod_lt_of_pos x (by omega)
theorem pkT_rng (ps : List Int) (q : Nat) : -1 ≤ pkT ps q ∧ pkT ps q < 4 := by
  unfold pkT
  have := tmod4 (ps.getD q 0)
  split <;> omega
theorem ownF_rng (ps : List Int) (k : Nat) : ∀ x ∈ ownF (pkT ps) k, -1 ≤ x ∧ x < 4 := fun x hx => by
  unfold ownF at hx
  rw [List.mem_map] at hx
  obtain ⟨q, _, rfl⟩ := hx
  exact pkT_rng ps q
theorem ft_cms39 {t : Tre} (h : treC t = 0) : rts (ftS t) = [0] := by
  have hl := treC_len h
  have e3 : (ftS t).par.length = t.par.length := ftP_len t _
  unfold rts rtL
  rw [e3]
  have : (List.range t.par.length).filter (fun i => decide (((ftS t).par.getD i []).length = 0)) = [0] := by
    obtain ⟨m, hm⟩ : ∃ m, t.par.length = m + 1 := ⟨t.par.length - 1, by omega⟩
    rw [hm, List.range_succ_eq_map, List.filter_cons]
    have e0 : (ftS t).par.getD 0 [] = if 0 = 0 then [] else [t.par.getD 0 0] := ftP_at t _ 0 (by omega)
    rw [if_pos (by rw [e0]; simp)]
    congr 1
    rw [List.filter_eq_nil_iff]
    intro i hi
    obtain ⟨j, hj, rfl⟩ := List.mem_map.1 hi
    rw [List.mem_range] at hj
    have e2 : (ftS t).par.getD (j + 1) [] = if j + 1 = 0 then [] else [t.par.getD (j + 1) 0] := ftP_at t _ (j + 1) (by omega)
    rw [e2]
    simp
  rw [this]
  rfl
theorem tree_sc {t : Tre} {own : List Int} (hf : ftE t = 0) (hl : own.length = (lvs t).length) (ho : ∀ x ∈ own, -1 ≤ x ∧ x < 4) : chkC (ftS t) (nodS t own) = 0 ∧ (scE (ftS t) (nodS t own) = 0 ∨ scE (ftS t) (nodS t own) = 4) ∧ fitE t own = 0 ∧ chE t own 4 = 0 ∧ rooE (ftS t) (nodS t own) = 0 ∧ rooV (ftS t) (nodS t own) = 0 := by
  obtain ⟨hc, hst⟩ := ftE_zero hf
  have e3 : (ftS t).par.length = t.par.length := ftP_len t _
  have hns := nodS_len t own
  have hnr := nodS_rng ho hl (by omega)
  have hck : chkC (ftS t) (nodS t own) = 0 := by
    unfold chkC
    rw [if_neg (fun h => h hst), if_neg (fun h => h (by rw [e3]; exact hns)), if_neg]
    rw [List.any_eq_true]
    rintro ⟨x, hx, hb⟩
    have := hnr x hx
    unfold badS at hb
    simp only [Bool.or_eq_true, decide_eq_true_eq] at hb
    omega
  have hkw : ∀ hi : Int, 4 ≤ hi → knwE own (lvs t).length (-1) hi = 0 := fun hi h4 => by
    unfold knwE
    rw [if_neg (fun h => h hl), if_neg]
    rw [List.any_eq_true]
    rintro ⟨x, hx, hb⟩
    have := ho x hx
    unfold badK at hb
    simp only [Bool.or_eq_true, decide_eq_true_eq] at hb
    omega
  have hro : rooE (ftS t) (nodS t own) = 0 := by
    unfold rooE
    rw [if_neg (fun h => h hck), if_neg]
    rw [ft_cms39 hc]
    simp
  refine ⟨hck, ?_, ?_, ?_, hro, ?_⟩
  · unfold scE
    rw [if_neg (fun h => h hck)]
    split
    · exact .inr rfl
    · exact .inl rfl
  · unfold fitE
    rw [if_neg (fun h => h hc)]
    exact hkw 16 (by omega)
  · unfold chE
    rw [if_neg (fun h => h hc)]
    exact hkw 4 (by omega)
  · unfold rooV
    rw [if_neg (fun h => h hro), ft_cms39 hc]
    rfl
end Go.Proofs.YtdigdmnnjbndlaaGreatDoor
