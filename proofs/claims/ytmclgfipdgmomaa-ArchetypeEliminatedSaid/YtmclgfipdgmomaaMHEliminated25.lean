/-
  Part 25 of the proof: Pq39, Reb. No statement of the seat is proved here.
-/
import Derived.Test.YtmclgfipdgmomaaMHEliminated24
namespace Go.Proofs.Ytmclgfipdgmomaa
structure Left (s t : Stem) (old : List Int) : Prop where
  ok : stCheck t = 0
  len : old.length = t.names.length
  asc : old.Pairwise (· < ·)
  rng : ∀ x ∈ old, 0 ≤ x ∧ x < s.names.length
  nm : ∀ k, k < t.names.length → t.names.getD k ByteArray.empty = s.names.getD (old.getD k 0).toNat ByteArray.empty
  ex : ∀ k, k < t.names.length → t.ext.getD k false = s.ext.getD (old.getD k 0).toNat false
  root : ∀ k, k < t.names.length → s.par.getD (old.getD k 0).toNat [] = [] → t.par.getD k [] = []
  all : ∀ n, n < s.names.length → s.par.getD n [] = [] → (n : Int) ∈ old
theorem Left.start {s : Stem} (h : stCheck s = 0) : Left s s (nums s.names.length) := by
  have hat : ∀ k, k < s.names.length → (nums s.names.length).getD k 0 = (k : Int) := fun k hk => by
    unfold nums
    rw [getD_lt _ _ _ (by simpa using hk)]
    simp
  refine ⟨h, by simp [nums], ?_, ?_, ?_, ?_, ?_, ?_⟩
  · unfold nums
    rw [List.pairwise_map]
    exact List.pairwise_lt_range.imp (by intro a b h; omega)
  · intro x hx
    unfold nums at hx
    obtain ⟨j, hj, rfl⟩ := List.mem_map.1 hx
    have := List.mem_range.1 hj
    omega
  · intro k hk; rw [hat k hk]; rfl
  · intro k hk; rw [hat k hk]; rfl
  · intro k hk hp; rw [hat k hk] at hp; exact hp
  · intro n hn _
    exact List.mem_map.2 ⟨n, List.mem_range.2 hn, rfl⟩
theorem erase_at (l : List Int) (i k : Nat) (hi : i < l.length) (hk : k < l.length - 1) : (l.eraseIdx i).getD k 0 = l.getD (upN i k) 0 := by
  have hu := upN_lt i l.length k hi hk
  have hl : (l.eraseIdx i).length = l.length - 1 := List.length_eraseIdx_of_lt hi
  rw [getD_lt _ _ _ (by omega), getD_lt _ _ _ hu, List.getElem_eraseIdx]
  unfold upN
  split <;> simp_all
theorem Left.step {s t : Stem} {old : List Int} (h : Left s t old) {i : Nat} (hi : fdr t = some i) : Left s (remS t i) (old.eraseIdx i) := by
  obtain ⟨hok, hlen, hasc, hrng, hnm, hex, hroot, hall⟩ := h
  obtain ⟨_, _, _, hpl, _⟩ := stCheck_len t hok
  obtain ⟨h1, h2, _⟩ := fdr_some hi
  have hpos := derB_pos (stCheck_okPar t hok) h2
  have hit : i < t.names.length := by omega
  obtain ⟨l1, l2, l3⟩ := remS_len t i hit
  have hd : (t.par.getD i []).length = 1 := by
    unfold derB at h2
    rw [Bool.and_eq_true, decide_eq_true_eq] at h2
    exact h2.1
  refine ⟨remS_check t i hok hit (by omega), ?_, ?_, ?_, ?_, ?_, ?_, ?_⟩
  · rw [List.length_eraseIdx_of_lt (by omega), l1, hlen]
  · exact hasc.sublist (List.eraseIdx_sublist _ _)
  · intro x hx
    exact hrng x ((List.eraseIdx_sublist _ _).subset hx)
  · intro k hk
    rw [remS_names t i k hit (by omega), erase_at old i k (by omega) (by omega)]
    exact hnm _ (upN_lt i _ k hit (by omega))
  · intro k hk
    rw [remS_ext t i k hit (by omega), erase_at old i k (by omega) (by omega)]
    exact hex _ (upN_lt i _ k hit (by omega))
  · intro k hk hp
    rw [erase_at old i k (by omega) (by omega)] at hp
    have hr := hroot _ (upN_lt i _ k hit (by omega)) hp
    rw [remS_par t i k hit (by omega), List.eq_nil_iff_forall_not_mem]
    intro x hx
    obtain ⟨y, hy, _⟩ := (remL_mem t i _ x).1 hx
    rcases (remC_mem t i _ y).1 hy with ⟨h3, _⟩ | ⟨h3, _⟩
    · rw [hr] at h3; simp at h3
    · rw [hr] at h3; simp at h3
  · intro n hn hp
    obtain ⟨j, hj, e⟩ := List.getElem_of_mem (hall n hn hp)
    have hji : j ≠ i := by
      rintro rfl
      have hr := hroot j (by omega) (by rw [getD_lt _ _ _ hj, e]; exact hp)
      rw [hr] at hd; simp at hd
    rw [← e]
    exact List.mem_eraseIdx_iff_getElem.2 ⟨j, hj, hji, rfl⟩
theorem Left.elm {s : Stem} : ∀ (n : Nat) {t : Stem} {old : List Int}, Left s t old → t.names.length ≤ n → Left s (elm n t old).1 (elm n t old).2 ∧ fdr (elm n t old).1 = none
  | 0, t, old, h, hn => by
    have := (stCheck_len t h.ok).1
    omega
  | n + 1, t, old, h, hn => by
    cases hf : fdr t with
    | none => rw [elm_none hf]; exact ⟨h, hf⟩
    | some i =>
      rw [elm_some hf]
      have hit := (fdr_some hf).1
      obtain ⟨_, _, _, hpl, _⟩ := stCheck_len t h.ok
      have := (remS_len t i (by omega)).1
      exact Left.elm n (h.step hf) (by omega)
theorem elmS_left {s : Stem} (h : stCheck s = 0) : Left s (elmS s).1 (elmS s).2 ∧ fdr (elmS s).1 = none := Left.elm s.names.length (Left.start h) (Nat.le_refl _)
theorem elmS_again {s : Stem} (h : stCheck s = 0) : elmS (elmS s).1 = ((elmS s).1, nums (elmS s).1.names.length) := elm_none (elmS_left h).2 _ _
end Go.Proofs.Ytmclgfipdgmomaa
namespace Go.Proofs.Ytmclgfipdgmomaa
open Go.RowKit
theorem pt1Box {B : Nat} {w0 w : World} {L : List Res} {e : TypeId} {g : Nat} {cs : List Value} {v : Value} (hp : Hp B w0 w L) (i : Nat) (hi : L[i]? = some (.box e g cs)) (k : Nat) (hk : cs[k]? = some v) : Pt1 w (.pointer (some ⟨g, k, none⟩)) v :=
  ⟨g, k, rfl, by rw [← hk]; exact (hp.boxAt i hi).1 k⟩
def reQ (L : List Res) (Q : Exit → Fm → List Res → Prop) : Exit → Fm → List Res → Prop := fun e F L' => Q e F (L' ++ L)
section
variable {P : Program} {n : Nat} {w0 : World} {Q : Exit → Fm → List Res → Prop} {F : Fm} {L : List Res} {c : Code}
theorem OK_rebase (h : ∀ w1, Hp w0.heap.size w0 w1 L → OK P n w1 (reQ L Q) c F []) : OK P n w0 Q c F L := OK.mk' fun w a hfr hp =>
  wp_mono ((h w hp).use w a hfr (Hp.refl w)) fun _ _ _ ⟨F', L', h1, h2, h3⟩ => ⟨F', L' ++ L, h1, hp.call h2, h3⟩
theorem reQ_block (d : Nat) : reQ L (blockQ d Q) = blockQ d (reQ L Q) := by
  unfold reQ blockQ
  funext e F L'
  cases e <;> rfl
theorem reQ_then (K : Fm → List Res → Prop) : reQ L (thenQ K Q) = thenQ (fun F L' => K F (L' ++ L)) (reQ L Q) := by
  unfold reQ thenQ
  funext e F L'
  cases e <;> rfl
end
attribute [irreducible] reQ
end Go.Proofs.Ytmclgfipdgmomaa
