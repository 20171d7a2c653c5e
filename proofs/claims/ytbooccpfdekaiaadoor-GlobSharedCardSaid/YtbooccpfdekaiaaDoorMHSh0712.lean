/-
  Part 12 of the proof: Pc07, Ph07, Gj07, Any, Anx, Cut. No statement of the seat is proved here.
-/
import Derived.Test.YtbooccpfdekaiaaDoorMHSh0711
import Derived.Laws.StructEq
import Derived.DeepKeys4
namespace Go.Proofs.YtbooccpfdekaiaaDoor
open Go.RowKit
def lexL : List UInt8 → List UInt8 → Prop
  | [], [] => False
  | _ :: _, [] => False
  | [], _ :: _ => True
  | a :: r, b :: s => a.toNat < b.toNat ∨ (a = b ∧ lexL r s)
theorem lexL_nil : ∀ u, ¬ lexL u []
  | [] => fun h => h
  | _ :: _ => fun h => h
theorem lexL_irr : ∀ u, ¬ lexL u u
  | [] => fun h => h
  | a :: r => fun h => by
    rcases h with h | ⟨_, h⟩
    · omega
    · exact lexL_irr r h
theorem lexL_trans : ∀ {u v w : List UInt8}, lexL u v → lexL v w → lexL u w
  | _, [], _, h, _ => absurd h (lexL_nil _)
  | _, _ :: _, [], _, h => absurd h (lexL_nil _)
  | [], _ :: _, _ :: _, _, _ => trivial
  | a :: u, b :: v, c :: w, h, k => by
    rcases h with h | ⟨rfl, h⟩
    · rcases k with k | ⟨rfl, k⟩
      · exact .inl (by omega)
      · exact .inl h
    · rcases k with k | ⟨rfl, k⟩
      · exact .inl k
      · exact .inr ⟨rfl, lexL_trans h k⟩
theorem lexL_app {c d : UInt8} : ∀ {u v : List UInt8}, u.length = v.length → lexL u v → lexL (u ++ [c]) (v ++ [d])
  | _, [], _, h => absurd h (lexL_nil _)
  | [], _ :: _, h, _ => by simp at h
  | a :: u, b :: v, hl, h => by
    rcases h with h | ⟨rfl, h⟩
    · exact .inl h
    · exact .inr ⟨rfl, lexL_app (by simpa using hl) h⟩
theorem lexL_last {c d : UInt8} (h : c.toNat < d.toNat) : ∀ u : List UInt8, lexL (u ++ [c]) (u ++ [d])
  | [] => .inl h
  | _ :: u => .inr ⟨rfl, lexL_last h u⟩
def ltW (u w : List UInt8) : Prop := u.length < w.length ∨ (u.length = w.length ∧ lexL u w)
theorem ltW_irr (u : List UInt8) : ¬ ltW u u := fun h => h.elim (fun h => Nat.lt_irrefl _ h) (fun h => lexL_irr u h.2)
theorem ltW_trans {u v w : List UInt8} (h : ltW u v) (k : ltW v w) : ltW u w := by
  rcases h with h | ⟨h, h'⟩
  · rcases k with k | ⟨k, _⟩
    · exact .inl (by omega)
    · exact .inl (by omega)
  · rcases k with k | ⟨k, k'⟩
    · exact .inl (by omega)
    · exact .inr ⟨by omega, lexL_trans h' k'⟩
theorem ltW_app {u v : List UInt8} (c d : UInt8) (h : ltW u v) : ltW (u ++ [c]) (v ++ [d]) := by
  rcases h with h | ⟨h, h'⟩
  · exact .inl (by simpa using h)
  · exact .inr ⟨by simpa using h, lexL_app h h'⟩
theorem ltW_last {c d : UInt8} (h : c.toNat < d.toNat) (u : List UInt8) : ltW (u ++ [c]) (u ++ [d]) := .inr ⟨by simp, lexL_last h u⟩
theorem ltW_snoc (u : List UInt8) (c : UInt8) : ltW u (u ++ [c]) := .inl (by simp)
theorem ltW_nil (u : List UInt8) (c : UInt8) : ltW [] (u ++ [c]) := .inl (by simp)
def leW (u w : List UInt8) : Prop := u = w ∨ ltW u w
theorem leW_trans {u v w : List UInt8} (h : leW u v) (k : leW v w) : leW u w := by
  rcases h with rfl | h
  · exact k
  · rcases k with rfl | k
    · exact .inr h
    · exact .inr (ltW_trans h k)
theorem leW_lt {u v w : List UInt8} (h : leW u v) (k : ltW v w) : ltW u w := by
  rcases h with rfl | h
  · exact k
  · exact ltW_trans h k
theorem leW_app {u v : List UInt8} (c : UInt8) (h : leW u v) : leW (u ++ [c]) (v ++ [c]) := by
  rcases h with rfl | h
  · exact .inl rfl
  · exact .inr (ltW_app c c h)
theorem leW_len {u v : List UInt8} (h : leW u v) : u.length ≤ v.length := by
  rcases h with rfl | h | ⟨h, _⟩ <;> omega
theorem nxtK_zero (l : List Elc) (c : UInt8) : ∀ k, nxtK l 0 c k = 0
  | 0 => rfl
  | k + 1 => by
    rw [nxtK_succ, nxtK_zero l c k]
    unfold nxtE
    rw [Nat.zero_testBit, if_neg (by decide)]
theorem runM_ne {l : List Elc} {w : List UInt8} {c : UInt8} (h : runM l (w ++ [c]) ≠ 0) : runM l w ≠ 0 := fun e => h (by
  rw [runM_snoc, e]
  exact nxtK_zero l c _)
theorem mtB_ne {l : List Elc} {w : List UInt8} (h : mtB l w = true) : runM l w ≠ 0 := fun e => by
  unfold mtB at h
  rw [e, Nat.zero_testBit] at h
  cases h
def sameS (a b : List Elc) (u v : List UInt8) : Prop := runM a u = runM a v ∧ runM b u = runM b v
structure Bfs (a b : List Elc) (most : Nat) (Q : List (List UInt8)) (i c : Nat) : Prop where
  nil : Q[0]? = some []
  words : ∀ w ∈ Q, (∀ d ∈ w, chrB d = true) ∧ w.length ≤ most
  sorted : Q.Pairwise ltW
  diff : Q.Pairwise (fun u v => ¬ sameS a b u v)
  parent : ∀ v ∈ Q, v = [] ∨ ∃ j x d, Q[j]? = some x ∧ v = x ++ [d] ∧ (j < i ∨ (j = i ∧ d.toNat < c))
  done : ∀ j x d, Q[j]? = some x → (j < i ∨ (j = i ∧ d.toNat < c)) → x.length < most → chrB d = true → runM a (x ++ [d]) ≠ 0 → runM b (x ++ [d]) ≠ 0 → ∃ v ∈ Q, sameS a b v (x ++ [d]) ∧ leW v (x ++ [d])
  noacc : ∀ j x, Q[j]? = some x → j < i → ¬ (mtB a x = true ∧ mtB b x = true)
section
variable {a b : List Elc} {most : Nat} {Q : List (List UInt8)} {i c : Nat}
theorem bfs_0 (a b : List Elc) (most : Nat) : Bfs a b most [[]] 0 0 where
  nil := rfl
  words := fun w hw => by
    rw [List.mem_singleton] at hw
    subst hw
    exact ⟨fun d hd => absurd hd List.not_mem_nil, Nat.zero_le _⟩
  sorted := List.pairwise_singleton _ _
  diff := List.pairwise_singleton _ _
  parent := fun v hv => .inl (List.mem_singleton.1 hv)
  done := fun j x d _ h => by omega
  noacc := fun j x _ h => absurd h (Nat.not_lt_zero _)
theorem pw_at {α : Type} {R : α → α → Prop} : ∀ {l : List α}, l.Pairwise R → ∀ {j k : Nat} {x y : α}, l[j]? = some x → l[k]? = some y → j < k → R x y := by
  intro l h j k x y hj hk hjk
  obtain ⟨h1, rfl⟩ := List.getElem?_eq_some_iff.1 hj
  obtain ⟨h2, rfl⟩ := List.getElem?_eq_some_iff.1 hk
  exact List.pairwise_iff_getElem.1 h j k h1 h2 hjk
theorem Bfs.behind (h : Bfs a b most Q i c) {x : List UInt8} (hx : Q[i]? = some x) {d : UInt8} (hd : d.toNat = c) : ∀ v ∈ Q, ltW v (x ++ [d]) := by
  intro v hv
  rcases h.parent v hv with rfl | ⟨j, y, e, hy, rfl, hj | ⟨rfl, he⟩⟩
  · exact ltW_nil x d
  · exact ltW_app e d (pw_at h.sorted hy hx hj)
  · rw [hy] at hx
    cases hx
    exact ltW_last (by omega) _
theorem Bfs.step (h : Bfs a b most Q i c) {x : List UInt8} (hx : Q[i]? = some x) {d : UInt8} (hd : d.toNat = c)
    (hk : x.length < most → chrB d = true → runM a (x ++ [d]) ≠ 0 → runM b (x ++ [d]) ≠ 0 → ∃ v ∈ Q, sameS a b v (x ++ [d])) : Bfs a b most Q i (c + 1) where
  nil := h.nil
  words := h.words
  sorted := h.sorted
  diff := h.diff
  parent := fun v hv => by
    rcases h.parent v hv with e | ⟨j, y, e, hy, hv', hj⟩
    · exact .inl e
    · exact .inr ⟨j, y, e, hy, hv', by omega⟩
  done := fun j y e hy hj h1 h2 h3 h4 => by
    by_cases hc : j = i ∧ e.toNat = c
    · obtain ⟨rfl, he⟩ := hc
      rw [hx] at hy
      cases hy
      have : e = d := UInt8.toNat_inj.1 (by omega)
      subst this
      obtain ⟨v, hv, hs⟩ := hk h1 h2 h3 h4
      exact ⟨v, hv, hs, .inr (h.behind hx hd v hv)⟩
    · exact h.done j y e hy (by omega) h1 h2 h3 h4
  noacc := h.noacc
theorem Bfs.add (h : Bfs a b most Q i c) {x : List UInt8} (hx : Q[i]? = some x) {d : UInt8} (hd : d.toNat = c) (hl : x.length < most) (hc : chrB d = true)
    (hn : ∀ v ∈ Q, ¬ sameS a b v (x ++ [d])) : Bfs a b most (Q ++ [x ++ [d]]) i (c + 1) where
  nil := by
    have := (List.getElem?_eq_some_iff.1 h.nil).1
    rw [List.getElem?_append_left this]; exact h.nil
  words := fun w hw => by
    rcases List.mem_append.1 hw with hw | hw
    · exact h.words w hw
    · rw [List.mem_singleton] at hw
      subst hw
      refine ⟨fun e he => ?_, by rw [List.length_append, List.length_singleton];omega⟩
      rcases List.mem_append.1 he with he | he
      · exact (h.words x (List.mem_of_getElem? hx)).1 e he
      · rw [List.mem_singleton] at he; subst he; exact hc
  sorted := List.pairwise_append.2 ⟨h.sorted, List.pairwise_singleton _ _, fun v hv w hw => by
    rw [List.mem_singleton] at hw
    subst hw
    exact h.behind hx hd v hv⟩
  diff := List.pairwise_append.2 ⟨h.diff, List.pairwise_singleton _ _, fun v hv w hw => by
    rw [List.mem_singleton] at hw
    subst hw
    exact hn v hv⟩
  parent := fun v hv => by
    have hi := (List.getElem?_eq_some_iff.1 hx).1
    rcases List.mem_append.1 hv with hv | hv
    · rcases h.parent v hv with e | ⟨j, y, e, hy, hv', hj⟩
      · exact .inl e
      · exact .inr ⟨j, y, e, by rw [List.getElem?_append_left (List.getElem?_eq_some_iff.1 hy).1]; exact hy, hv', by omega⟩
    · rw [List.mem_singleton] at hv
      exact .inr ⟨i, x, d, by rw [List.getElem?_append_left hi]; exact hx, hv, by omega⟩
  done := fun j y e hy hj h1 h2 h3 h4 => by
    have hi := (List.getElem?_eq_some_iff.1 hx).1
    rw [List.getElem?_append_left (by omega)] at hy
    by_cases hce : j = i ∧ e.toNat = c
    · obtain ⟨rfl, he⟩ := hce
      rw [hx] at hy
      cases hy
      have : e = d := UInt8.toNat_inj.1 (by omega)
      subst this
      exact ⟨_, List.mem_append_right _ (List.mem_singleton.2 rfl), ⟨rfl, rfl⟩, .inl rfl⟩
    · obtain ⟨v, hv, hs⟩ := h.done j y e hy (by omega) h1 h2 h3 h4
      exact ⟨v, List.mem_append_left _ hv, hs⟩
  noacc := fun j y hy hj => by
    have hi := (List.getElem?_eq_some_iff.1 hx).1
    rw [List.getElem?_append_left (by omega)] at hy
    exact h.noacc j y hy hj
theorem Bfs.next (h : Bfs a b most Q i c) (hc : c = 256 ∨ ∀ x, Q[i]? = some x → ¬ x.length < most) (hn : ∀ x, Q[i]? = some x → ¬ (mtB a x = true ∧ mtB b x = true)) : Bfs a b most Q (i + 1) 0 where
  nil := h.nil
  words := h.words
  sorted := h.sorted
  diff := h.diff
  parent := fun v hv => by
    rcases h.parent v hv with e | ⟨j, y, e, hy, hv', hj⟩
    · exact .inl e
    · exact .inr ⟨j, y, e, hy, hv', by omega⟩
  done := fun j y e hy hj h1 h2 h3 h4 => by
    have he := e.toNat_lt
    by_cases hji : j = i
    · subst hji
      rcases hc with rfl | hc
      · exact h.done j y e hy (.inr ⟨rfl, he⟩) h1 h2 h3 h4
      · exact absurd h1 (hc y hy)
    · exact h.done j y e hy (by omega) h1 h2 h3 h4
  noacc := fun j y hy hj => by
    by_cases hji : j = i
    · subst hji; exact hn y hy
    · exact h.noacc j y hy (by omega)
theorem Bfs.reach (h : Bfs a b most Q i 0) : ∀ u : List UInt8, (∀ d ∈ u, chrB d = true) → u.length ≤ most → runM a u ≠ 0 → runM b u ≠ 0 → (∀ (k : Nat) (v : List UInt8), Q[k]? = some v → leW v u → k < i) → ∃ (k : Nat) (v : List UInt8), Q[k]? = some v ∧ sameS a b v u ∧ leW v u := by
  intro u
  induction u using snocInd7 with
  | h0 =>
    intro _ _ _ _ _
    exact ⟨0, [], h.nil, ⟨rfl, rfl⟩, .inl rfl⟩
  | hs u d ih =>
    intro h1 h2 h3 h4 h5
    rw [List.length_append, List.length_singleton] at h2
    have hsn := ltW_snoc u d
    obtain ⟨k, v, hv, hs, hle⟩ := ih (fun e he => h1 e (List.mem_append_left _ he)) (by omega) (runM_ne h3) (runM_ne h4) (fun k v hk hl => h5 k v hk (leW_trans hl (.inr hsn)))
    have hk := h5 k v hv (leW_trans hle (.inr hsn))
    have hlv := leW_len hle
    have e1 : runM a (v ++ [d]) = runM a (u ++ [d]) := by rw [runM_snoc, runM_snoc, hs.1]
    have e2 : runM b (v ++ [d]) = runM b (u ++ [d]) := by rw [runM_snoc, runM_snoc, hs.2]
    obtain ⟨v2, hv2, hs2, hle2⟩ := h.done k v d hv (.inl hk) (by omega) (h1 d (List.mem_append_right _ (List.mem_singleton.2 rfl))) (by rw [e1]; exact h3) (by rw [e2]; exact h4)
    obtain ⟨k2, hk2⟩ := List.getElem?_of_mem hv2
    exact ⟨k2, v2, hk2, ⟨hs2.1.trans e1, hs2.2.trans e2⟩, leW_trans hle2 (leW_app d hle)⟩
def Good (a b : List Elc) (most : Nat) (u : List UInt8) : Prop := (∀ d ∈ u, chrB d = true) ∧ u.length ≤ most ∧ mtB a u = true ∧ mtB b u = true
def First (a b : List Elc) (most : Nat) (w : List UInt8) : Prop := Good a b most w ∧ ∀ u, Good a b most u → ¬ ltW u w
theorem same_acc {u v : List UInt8} (h : sameS a b u v) : mtB a u = mtB a v ∧ mtB b u = mtB b v := by
  unfold mtB
  rw [h.1, h.2]
  exact ⟨rfl, rfl⟩
theorem Bfs.found (h : Bfs a b most Q i 0) {w : List UInt8} (hw : Q[i]? = some w) (ha : mtB a w = true) (hb : mtB b w = true) : First a b most w := by
  have hm := h.words w (List.mem_of_getElem? hw)
  refine ⟨⟨hm.1, hm.2, ha, hb⟩, fun u hu hlt => ?_⟩
  have key : ∀ (k : Nat) (v : List UInt8), Q[k]? = some v → leW v u → k < i := fun k v hk hl => by
    have hvw := leW_lt hl hlt
    refine Decidable.byContradiction fun hki => ?_
    by_cases he : k = i
    · subst he
      rw [hk] at hw
      cases hw
      exact ltW_irr _ hvw
    · exact ltW_irr _ (ltW_trans hvw (pw_at h.sorted hw hk (by omega)))
  obtain ⟨k, v, hv, hs, hle⟩ := h.reach u hu.1 hu.2.1 (mtB_ne hu.2.2.1) (mtB_ne hu.2.2.2) key
  have hk := key k v hv hle
  have := same_acc hs
  exact h.noacc k v hv hk ⟨by rw [this.1]; exact hu.2.2.1, by rw [this.2]; exact hu.2.2.2⟩
theorem Bfs.none (h : Bfs a b most Q i 0) (hi : Q.length ≤ i) : ∀ u, ¬ Good a b most u := fun u hu => by
  have key : ∀ (k : Nat) (v : List UInt8), Q[k]? = some v → leW v u → k < i := fun k v hk _ => by
    have := (List.getElem?_eq_some_iff.1 hk).1
    omega
  obtain ⟨k, v, hv, hs, hle⟩ := h.reach u hu.1 hu.2.1 (mtB_ne hu.2.2.1) (mtB_ne hu.2.2.2) key
  have hk := key k v hv hle
  have := same_acc hs
  exact h.noacc k v hv hk ⟨by rw [this.1]; exact hu.2.2.1, by rw [this.2]; exact hu.2.2.2⟩
theorem Bfs.size (h : Bfs a b most Q i c) : Q.length ≤ 2 ^ (a.length + 1) * 2 ^ (b.length + 1) := by
  have hn : (Q.map fun w => runM a w * 2 ^ (b.length + 1) + runM b w).Nodup := by
    refine List.pairwise_map.2 (h.diff.imp fun {u v} hd e => hd ?_)
    have hu := runM_lt b u
    have hv := runM_lt b v
    have hp : 0 < 2 ^ (b.length + 1) := Nat.pow_pos (by decide)
    have e1 : (runM a u * 2 ^ (b.length + 1) + runM b u) / 2 ^ (b.length + 1) = (runM a v * 2 ^ (b.length + 1) + runM b v) / 2 ^ (b.length + 1) := by rw [e]
    have e2 : (runM a u * 2 ^ (b.length + 1) + runM b u) % 2 ^ (b.length + 1) = (runM a v * 2 ^ (b.length + 1) + runM b v) % 2 ^ (b.length + 1) := by rw [e]
    rw [Nat.mul_comm, Nat.mul_add_div hp, Nat.div_eq_of_lt hu, Nat.add_zero, Nat.mul_comm, Nat.mul_add_div hp, Nat.div_eq_of_lt hv, Nat.add_zero] at e1
    rw [Nat.mul_comm, Nat.mul_add_mod, Nat.mod_eq_of_lt hu, Nat.mul_comm, Nat.mul_add_mod, Nat.mod_eq_of_lt hv] at e2
    exact ⟨e1, e2⟩
  have hsub : (Q.map fun w => runM a w * 2 ^ (b.length + 1) + runM b w) ⊆ List.range (2 ^ (a.length + 1) * 2 ^ (b.length + 1)) := fun x hx => by
    obtain ⟨w, _, rfl⟩ := List.mem_map.1 hx
    have h1 := runM_lt a w
    have h2 := runM_lt b w
    rw [List.mem_range]
    have h3 : (runM a w + 1) * 2 ^ (b.length + 1) ≤ 2 ^ (a.length + 1) * 2 ^ (b.length + 1) := Nat.mul_le_mul_right _ h1
    rw [Nat.succ_mul] at h3
    omega
  have := hn.length_le_of_subset hsub
  rwa [List.length_map, List.length_range] at this
end
end Go.Proofs.YtbooccpfdekaiaaDoor
namespace Go.Proofs.YtbooccpfdekaiaaDoor
open Go.RowKit
theorem exM0 : mtcB [100, 101, 42, 115] [100, 101, 117, 115] = true ∧ mtcE [100, 101, 42, 115] [100, 101, 117, 115] = 0 := by constructor <;> kernel_rfl
theorem exM1 : mtcB [100, 101, 42, 115] [100, 101, 117, 109] = false ∧ mtcE [100, 101, 42, 115] [100, 101, 117, 109] = 0 := by constructor <;> kernel_rfl
theorem exLit : litW [91, 100, 93, 101, 117, 115] = [100, 101, 117, 115] ∧ litB [91, 100, 93, 101, 117, 115] = true ∧ litE [91, 100, 93, 101, 117, 115] = 0 := by refine ⟨?_, ?_, ?_⟩ <;> kernel_rfl
theorem exBnd : bndR [97, 63, 91, 98, 99, 93, 42] = (3, -1, 0) := by kernel_rfl
theorem exPa : pat [97, 42] = [some (elHas [97]), none] := by kernel_rfl
theorem exPb : pat [42, 98] = [none, some (elHas [98])] := by kernel_rfl
theorem exEa : patE [97, 42] = 0 := by kernel_rfl
theorem exEb : patE [42, 98] = 0 := by kernel_rfl
theorem exHas (c b : UInt8) (h1 : c ≠ 63) (h2 : c ≠ 42) (h3 : c ≠ 91) : elHas [c] b = true ↔ b = c := by
  unfold elHas
  dsimp only
  rw [if_neg h1, if_neg h2, if_neg h3, decide_eq_true_eq]
theorem exGood : Good (pat [97, 42]) (pat [42, 98]) 8 [97, 98] := by
  refine ⟨fun d hd => ?_, by decide, by kernel_rfl, by kernel_rfl⟩
  simp only [List.mem_cons, List.not_mem_nil, or_false] at hd
  rcases hd with rfl | rfl <;> kernel_rfl
theorem exFirst {w : List UInt8} (h : First (pat [97, 42]) (pat [42, 98]) 8 w) : w = [97, 98] := by
  obtain ⟨⟨_, _, h1, h2⟩, h3⟩ := h
  have hn := h3 _ exGood
  rw [mtB_iff, exPa, Mt_set] at h1
  rw [mtB_iff, exPb, Mt_star] at h2
  obtain ⟨c, u, rfl, hc, _⟩ := h1
  obtain ⟨s, t, hst, ht⟩ := h2
  rw [Mt_one_set] at ht
  obtain ⟨b, rfl, hb⟩ := ht
  rw [exHas _ _ (by decide) (by decide) (by decide)] at hc hb
  subst hc hb
  match s, u, hst with
  | [], u, hst => cases hst
  | [_], u, hst => cases hst; rfl
  | _ :: _ :: s, u, hst => exact absurd (.inl (by rw [hst]; simp)) hn
def fineB (p : List UInt8) : Bool := decide (p.length ≤ 12) && decide (patE p = 0)
def plnB (w : List UInt8) : Bool := decide (w.length ≤ 12) && !decide (32 ∈ w)
theorem fine_of {p : List UInt8} (h : fineB p = true) : p.length ≤ 12 ∧ patE p = 0 ∧ errP p = 0 := by
  unfold fineB at h
  rw [Bool.and_eq_true, decide_eq_true_eq, decide_eq_true_eq] at h
  exact ⟨h.1, h.2, (patE_len h.2).2⟩
theorem pln_of {w : List UInt8} (h : plnB w = true) : w.length ≤ 12 ∧ chkS w = 0 := by
  unfold plnB at h
  rw [Bool.and_eq_true, decide_eq_true_eq, Bool.not_eq_true', decide_eq_false_iff_not] at h
  unfold chkS
  rw [if_neg (by omega), if_neg h.2]
  exact ⟨h.1, rfl⟩
theorem mtc_ok {p s : List UInt8} (hp : patE p = 0) (hs : chkS s = 0) : mtcB p s = mtB (pat p) s ∧ mtcE p s = 0 := by
  have h : mtcE p s = 0 := by
    unfold mtcE
    rw [if_neg (by rw [hp]; decide), hs]
  unfold mtcB
  rw [h]
  exact ⟨rfl, rfl⟩
end Go.Proofs.YtbooccpfdekaiaaDoor
namespace Go.Proofs.YtbooccpfdekaiaaDoor
open Go.RowKit Go.Maps
section
variable {P : Program} {n : Nat} {w0 : World} {K : Fm → List Res → Prop} {F : Fm} {L : List Res} {m : Md} {Lw : List Res} {ops : Array Oper} {rest : List Oper} {d : Option Nat} {ty : TypeId} {pos : String} {aft : Array Edge}
theorem OKx_insert {t k e : TypeId} {x y u : Operand} {g c : Nat} {Fk : Lit → Option Value} {key val : Value} {kl : Lit} [hE : Keeps w0 L Lw] (i : Nat) (hx : rv n F x = .map (some g)) (hy : rv n F y = key) (hu : rv n F u = val) (hi : L[i]? = some (.obj g (MapIs P k c Fk)))
    (Ky : Keyed P k) (ht : P.underlying t = some (.map k e)) (hn : c < 9223372036854775807) (hkey : keyOf P k key = some kl) (hl : WideAt.IsKeyLit kl)
    (kk : OKx P n w0 (.seq Lw) ops K rest (updo F d undef) (L.set i (.obj g (MapIs P k (c + 1) (putF Fk kl val))))) : OKx P n w0 (.seq Lw) ops K (⟨d, .insert t x y u, ty, pos, aft, none⟩ :: rest) F L := by
  refine OKx_act0 hE.ent fun w hp => ?_
  obtain ⟨w', hrun, hp'⟩ := hp.store i hi Ky ht hn (val := val) hkey hl
  refine ⟨w', _, ?_, hp', kk⟩
  simp [execOp, hx, hy, hu, hrun, Result.andThen]
theorem run_eqlA2 {e : TypeId} (w : World) (t : TypeId) (k : IntKind) (a b c d : Int) (ht : P.underlying t = some (.array 2 e)) (he : P.underlying e = some (.int k)) (hsz : ∀ w, (sizeOf e).run P w = .ok 1 w) :
    (binOp .eql t (.agg #[.int k a, .int k b]) (.agg #[.int k c, .int k d])).run P w = .ok (.bool ((a == c) && (b == d))) w := by
  rw [run_eql_struct, show (10000 : Nat) = 9998 + 1 + 1 from rfl, Op.equalIn]
  have p1 : ∀ (u v : Value) w, (part e #[u, v] 0).run P w = .ok u w := fun u v w => by simp [part, isAgg, run_underlying he]
  have p2 : ∀ (u v : Value) w, (part e #[u, v] 1).run P w = .ok v w := fun u v w => by simp [part, isAgg, run_underlying he]
  have q : ∀ (x y : Int) w, (Op.equalIn (9998 + 1) e (.int k x) (.int k y)).run P w = .ok (x == y) w := fun x y w => run_equalIn_int w 9998 e k k x y he
  simp only [Sem.run_bind, run_underlying ht, Result.andThen_ok, hsz, Std.Legacy.Range.forIn_eq_forIn_range', Std.Legacy.Range.size, Nat.sub_zero, Nat.add_sub_cancel, Nat.div_one]
  have e2 : List.range' 0 2 1 = [0, 1] := rfl
  rw [e2]
  simp only [List.forIn_cons, List.forIn_nil, Sem.run_bind, Nat.mul_one, p1, p2, q, Result.andThen_ok]
  have q' : ∀ (x y : Int) w, (Op.equalIn 9999 e (.int k x) (.int k y)).run P w = .ok (x == y) w := q
  cases h1 : (a == c) with
  | false => simp
  | true =>
    simp only [Bool.not_true, Bool.false_eq_true, if_false, Sem.run_pure, Result.andThen_ok, Bool.true_and, Nat.one_mul, Sem.run_bind, p2, q']
    cases h2 : (b == d) with
    | false => simp
    | true => simp
theorem OKx_eqlA2 {t ut e : TypeId} {x y : Operand} {k : IntKind} {a b c d' : Int} {r : Bool} {z : Value} [T : TOne P e z] (hx : rv n F x = .agg #[.int k a, .int k b]) (hy : rv n F y = .agg #[.int k c, .int k d']) (ht : P.underlying t = some (.array 2 e)) (he : P.underlying e = some (.int k)) (hg : P.eqGuardType P.depth t = false) (hr : ((a == c) && (b == d')) = r)
    (kk : OKx P n w0 m ops K rest (updo F d (.bool r)) L) : OKx P n w0 m ops K (⟨d, .binOp .eql t x y ut, ty, pos, aft, none⟩ :: rest) F L :=
  OKx_still (fun w _ _ _ _ _ => by
    have h1 := run_eqGuard_agg (P := P) w .eql t x y #[.int k a, .int k b] #[.int k c, .int k d'] hg
    have h2 := run_eqlA2 w t k a b c d' ht he T.size
    simp only [execOp, hx, hy, Sem.run_bind, h1, h2, hr, Result.andThen]
    rfl) kk
end
def prL (m1 m2 : Nat) : List Value := [.int .u64 ((m1 % 18446744073709551616 : Nat) : Int), .int .u64 ((m1 / 18446744073709551616 : Nat) : Int), .int .u64 ((m2 % 18446744073709551616 : Nat) : Int), .int .u64 ((m2 / 18446744073709551616 : Nat) : Int)]
def prV (m1 m2 : Nat) : Value := .agg (prL m1 m2).toArray
theorem prV_inj {m1 m2 k1 k2 : Nat} (h : prV m1 m2 = prV k1 k2) : m1 = k1 ∧ m2 = k2 := by
  unfold prV prL at h
  simp only [Value.agg.injEq, List.toArray_eq_iff, Value.int.injEq, List.cons.injEq, true_and, and_true] at h
  have := Nat.div_add_mod m1 18446744073709551616
  have := Nat.div_add_mod k1 18446744073709551616
  have := Nat.div_add_mod m2 18446744073709551616
  have := Nat.div_add_mod k2 18446744073709551616
  omega
theorem gLaid : laidOutB Tryd.prog = true := by kernel_rfl
theorem gKeyed : Keyed Tryd.prog 51 := Keyed.of_law (deep_law_laid gLaid (m := 3) (by omega) (of_decide_eq_true (by kernel_rfl)) (by kernel_rfl) (by rw [Tryd.underlying51]))
theorem kl_u64 (d : Nat) (x : Nat) (h : x < 18446744073709551616) : Tryd.prog.keyLits (d + 1) 46 [.int .u64 (x : Int)] = some [.int .u64 (x : Int)] := by
  unfold Program.keyLits
  rw [Tryd.underlying46]
  have : (Lit.int .u64 (x : Int)).wf = true := by
    simp [Lit.wf, IntKind.min, IntKind.max, IntKind.signed, IntKind.bits]
    omega
  simp [this]
theorem kl_arr (d : Nat) (x y : Nat) (h : x < 18446744073709551616) (h' : y < 18446744073709551616) : Tryd.prog.keyLits (d + 2) 48 [.int .u64 (x : Int), .int .u64 (y : Int)] = some [.int .u64 (x : Int), .int .u64 (y : Int)] := by
  rw [show d + 2 = (d + 1) + 1 from rfl]
  unfold Program.keyLits
  rw [Tryd.underlying48]
  have c1 : Tryd.prog.cellsOf 48 = 2 := by kernel_rfl
  have c2 : Tryd.prog.cellsOf 46 = 1 := by kernel_rfl
  have e2 : List.range 2 = [0, 1] := rfl
  simp [c1, c2, e2, kl_u64 d x h, kl_u64 d y h']
theorem key_pair (m1 m2 : Nat) (h1 : m1 < 2 ^ 128) (h2 : m2 < 2 ^ 128) : ∃ kl, keyOf Tryd.prog 51 (prV m1 m2) = some kl := by
  have e : (2 : Nat) ^ 128 = 18446744073709551616 * 18446744073709551616 := rfl
  rw [e] at h1 h2
  have a1 := Nat.div_lt_of_lt_mul h1
  have a2 := Nat.div_lt_of_lt_mul h2
  have b1 := Nat.mod_lt m1 (by decide : 18446744073709551616 > 0)
  have b2 := Nat.mod_lt m2 (by decide : 18446744073709551616 > 0)
  have hk : Tryd.prog.keyType 51 = true := by kernel_rfl
  have c1 : Tryd.prog.cellsOf 51 = 4 := by kernel_rfl
  have c2 : Tryd.prog.cellsOf 48 = 2 := by kernel_rfl
  have hsz : ∃ d, Tryd.prog.types.size + 1 = d + 2 + 1 := ⟨_, rfl⟩
  obtain ⟨d, hd⟩ := hsz
  unfold keyOf
  rw [Tryd.underlying51, hd]
  have hf : (prV m1 m2).formed Tryd.prog 51 = true := by
    unfold prV prL
    simp [Value.formed, Tryd.underlying51, c1]
  simp only [hk, hf, Bool.and_self, if_true]
  unfold Program.keyLits
  rw [Tryd.underlying51]
  unfold prV prL
  generalize m1 % 18446744073709551616 = x1 at b1 ⊢
  generalize m1 / 18446744073709551616 = x2 at a1 ⊢
  generalize m2 % 18446744073709551616 = x3 at b2 ⊢
  generalize m2 / 18446744073709551616 = x4 at a2 ⊢
  simp [Value.cells, c1, c2, kl_arr d _ _ b1 a1, kl_arr d _ _ b2 a2]
noncomputable def pkL (m1 m2 : Nat) : Lit := (keyOf Tryd.prog 51 (prV m1 m2)).getD .nil
theorem pkL_at (m1 m2 : Nat) (h1 : m1 < 2 ^ 128) (h2 : m2 < 2 ^ 128) : keyOf Tryd.prog 51 (prV m1 m2) = some (pkL m1 m2) := by
  obtain ⟨kl, h⟩ := key_pair m1 m2 h1 h2
  unfold pkL
  rw [h]
  rfl
theorem pkL_key (m1 m2 : Nat) (h1 : m1 < 2 ^ 128) (h2 : m2 < 2 ^ 128) : WideAt.IsKeyLit (pkL m1 m2) := gKeyed.key (pkL_at m1 m2 h1 h2)
theorem pkL_same (m1 m2 k1 k2 : Nat) (h1 : m1 < 2 ^ 128) (h2 : m2 < 2 ^ 128) (h3 : k1 < 2 ^ 128) (h4 : k2 < 2 ^ 128) : (pkL m1 m2).sameKey (pkL k1 k2) = decide (m1 = k1 ∧ m2 = k2) := by
  rw [Bool.eq_iff_iff, WideAt.sameKey_iff (pkL_key k1 k2 h3 h4), decide_eq_true_eq]
  constructor
  · intro h
    have e1 := pkL_at m1 m2 h1 h2
    rw [h] at e1
    exact prV_inj (gKeyed.inj e1 (pkL_at k1 k2 h3 h4))
  · rintro ⟨rfl, rfl⟩
    rfl
end Go.Proofs.YtbooccpfdekaiaaDoor
namespace Go.Proofs.YtbooccpfdekaiaaDoor
open Go.RowKit
def maskS (n : Nat) (S : List Nat) : Array Bool := ((List.range n).map fun i => memN i S).toArray
section
variable {P : Program} {n : Nat} {w0 : World} {Q : Exit → Fm → List Res → Prop} {K : Fm → List Res → Prop} {F : Fm} {L : List Res} {l : List Oper} {N f : Nat} {S : List Nat}
def OKa (P : Program) (n : Nat) (w0 : World) (K : Fm → List Res → Prop) (l : List Oper) (N f : Nat) (S : List Nat) (F : Fm) (L : List Res) : Prop :=
  ∀ w a, Fr n a F → Hp w0.heap.size w0 w L → wpAny P .any l.toArray (liftN n w0 K) f (maskS N S) a w
theorem OKa.use (h : OKa P n w0 K l N f S F L) : ∀ w a, Fr n a F → Hp w0.heap.size w0 w L → wpAny P .any l.toArray (liftN n w0 K) f (maskS N S) a w := h
def kidOk (l : List Oper) (N : Nat) (S : List Nat) (i : Nat) (S' : List Nat) : Bool := (maskS N S').toList == ((maskS N S).setIfInBounds i true).toList
theorem kidOk_eq {i : Nat} {S' : List Nat} (h : kidOk l N S i S' = true) : maskS N S' = (maskS N S).setIfInBounds i true := by
  unfold kidOk at h
  exact Array.toList_inj.1 (beq_iff_eq.1 h)
end
attribute [irreducible] OKa
end Go.Proofs.YtbooccpfdekaiaaDoor
namespace Go.Proofs.YtbooccpfdekaiaaDoor
open Go.RowKit
section
variable {P : Program} {ops : Array Oper} {Q : Exit → Act → World → Prop}
def pureLB (ops : Array Oper) : List Nat → Array Bool → Bool
  | [], _ => true
  | i :: E, listed => stepB ops [] listed i && pureLB ops E (listed.setIfInBounds i true)
def listE (E : List Nat) (listed : Array Bool) : Array Bool := E.foldl (fun l i => l.setIfInBounds i true) listed
theorem anyC_pureE {Cw : World → Prop} (hsel : Region.noSelect ops = true) (hQ : ∀ c a w, ¬ Q (.panic c) a w) (fuel : Nat) : ∀ (E : List Nat) (lo : List Oper) (listed : Array Bool) (a : Act) (w : World), E.map (fun t => ops[t]?) = lo.map some → pureLB ops E listed = true →
    wpPure P ops Cw (fun a' => anyC P ops (fun _ w => Cw w) Q fuel (listE E listed) a' w) lo a → anyC P ops (fun _ w => Cw w) Q (fuel + E.length) listed a w
  | [], lo, listed, a, w, hm, _, h => by
    obtain rfl : lo = [] := by simpa using hm.symm
    exact h
  | i :: E, lo, listed, a, w, hm, hB, h => by
    cases lo with
    | nil => simp at hm
    | cons o lo =>
      simp only [List.map_cons, List.cons.injEq] at hm
      obtain ⟨hi, hm⟩ := hm
      simp only [pureLB, stepB, Bool.and_eq_true, Bool.not_eq_true'] at hB
      obtain ⟨⟨⟨⟨hr, hf⟩, _⟩, hW⟩, hB'⟩ := hB
      have hr' : i ∈ Region.ready .any ops listed := by simpa using hr
      have hW' : ∀ j ∈ waiters ops i, listed.getD j true = false := fun j hj => by
        have := List.all_eq_true.1 hW j hj
        simpa using this
      rw [List.length_cons, ← Nat.add_assoc]
      unfold wpPure at h
      by_cases hw : Region.wanted o (yielded ops a.tmps) = true
      · rw [if_pos hw] at h
        obtain ⟨v, hv, hk⟩ := h
        exact anyC_first hi (Region.noSelect_spec hsel) hQ (fun _ _ _ h => h) _ listed a w (Region.free_spec hi hf) hr' hW' (.inl ⟨hw, fun _ w' _ _ hc => hv w' hc⟩) (anyC_pureE hsel hQ fuel E lo _ _ w hm hB' hk)
      · rw [if_neg hw] at h
        exact anyC_first hi (Region.noSelect_spec hsel) hQ (fun _ _ _ h => h) _ listed a w (Region.free_spec hi hf) hr' hW' (.inr ⟨by simpa using hw, rfl⟩) (anyC_pureE hsel hQ fuel E lo _ _ w hm hB' h)
theorem wpPure_mono {C : World → Prop} {Q1 Q2 : Act → Prop} (hq : ∀ a, Q1 a → Q2 a) : ∀ (l : List Oper) (a : Act), wpPure P ops C Q1 l a → wpPure P ops C Q2 l a
  | [], a, h => hq _ h
  | o :: l, a, h => by
    unfold wpPure at h ⊢
    split
    · rename_i hw
      rw [if_pos hw] at h
      obtain ⟨v, h1, h2⟩ := h
      exact ⟨v, h1, wpPure_mono hq l _ h2⟩
    · rename_i hw
      rw [if_neg hw] at h
      exact wpPure_mono hq l _ h
end
section
variable {P : Program} {n : Nat} {w0 : World} {Q : Exit → Fm → List Res → Prop} {K : Fm → List Res → Prop} {F : Fm} {L Lw : List Res} {l : List Oper} {N f : Nat} {S : List Nat}
def OKc (P : Program) (n : Nat) (w0 : World) (Lw : List Res) (K : Fm → List Res → Prop) (l : List Oper) (N f : Nat) (S : List Nat) (F : Fm) (L : List Res) : Prop :=
  ∀ w a, Fr n a F → Hp w0.heap.size w0 w L → anyC P l.toArray (fun _ w => Hp w0.heap.size w0 w Lw) (liftN n w0 K) f (maskS N S) a w
theorem OKc.use (h : OKc P n w0 Lw K l N f S F L) : ∀ w a, Fr n a F → Hp w0.heap.size w0 w L → anyC P l.toArray (fun _ w => Hp w0.heap.size w0 w Lw) (liftN n w0 K) f (maskS N S) a w := h
theorem OKc_end (hr : (Region.ready .any l.toArray (maskS N S)).isEmpty = true) (e : Ent w0 L Lw) (h : K F L) : OKc P n w0 Lw K l N 0 S F L :=
  fun w a hf hp => ⟨e.use w hp, List.isEmpty_iff.1 hr, rfl, F, L, hf, hp, h⟩
theorem OKc_stepG (kids : List (Nat × List Nat)) (hr : Region.ready .any l.toArray (maskS N S) = kids.map (·.1)) (hne : kids ≠ []) (e : Ent w0 L Lw) (h : ∀ k ∈ kids, maskS N k.2 = (maskS N S).setIfInBounds k.1 true ∧ ∃ o, l[k.1]? = some o ∧ OKx P n w0 (.seq []) l.toArray (fun F L => OKc P n w0 Lw K l N f k.2 F L) [o] F L) :
    OKc P n w0 Lw K l N (f + 1) S F L := by
  intro w a hf hp
  refine ⟨e.use w hp, fun h0 => ?_, fun i hi => ?_⟩
  · rw [hr] at h0
    exact absurd (List.map_eq_nil_iff.1 h0) hne
  · rw [hr] at hi
    obtain ⟨k, hk, rfl⟩ := List.mem_map.1 hi
    obtain ⟨hm, o, ho, hx⟩ := h k hk
    obtain ⟨_, h1⟩ := hx.use w a hf hp
    unfold wpOp
    have ho' : l.toArray[k.1]? = some o := by simpa using ho
    rw [ho']
    dsimp only
    rw [← hm]
    split
    · rename_i hw
      rw [if_pos hw] at h1
      refine .inl (Oper.wp_mono ?_ (wp_anyQ (fun c a w h => by cases h.1) (by rintro ⟨a, w, h, _⟩; cases h) h1))
      rintro a2 w2 ⟨_, _, F', L', h2, h3, h4⟩
      exact OKc.use h4 _ _ h2 h3
    · rename_i hw
      rw [if_neg hw] at h1
      obtain ⟨_, _, F', L', h2, h3, h4⟩ := h1
      exact OKc.use h4 _ _ h2 h3
theorem OKc_step1 {i1 : Nat} {S1 : List Nat} {o1 : Oper} (e : Ent w0 L Lw) (hr : Region.ready .any l.toArray (maskS N S) = [i1]) (m1 : kidOk l N S i1 S1 = true) (g1 : l[i1]? = some o1)
    (k1 : OKx P n w0 (.seq []) l.toArray (fun F L => OKc P n w0 Lw K l N f S1 F L) [o1] F L) : OKc P n w0 Lw K l N (f + 1) S F L :=
  OKc_stepG [(i1, S1)] hr (by simp) e fun k hk => by
    obtain rfl := List.mem_singleton.1 hk
    exact ⟨kidOk_eq m1, o1, g1, k1⟩
theorem OKc_step2 {i1 i2 : Nat} {S1 S2 : List Nat} {o1 o2 : Oper} (e : Ent w0 L Lw) (hr : Region.ready .any l.toArray (maskS N S) = [i1, i2]) (m1 : kidOk l N S i1 S1 = true) (m2 : kidOk l N S i2 S2 = true) (g1 : l[i1]? = some o1) (g2 : l[i2]? = some o2)
    (k1 : OKx P n w0 (.seq []) l.toArray (fun F L => OKc P n w0 Lw K l N f S1 F L) [o1] F L) (k2 : OKx P n w0 (.seq []) l.toArray (fun F L => OKc P n w0 Lw K l N f S2 F L) [o2] F L) : OKc P n w0 Lw K l N (f + 1) S F L :=
  OKc_stepG [(i1, S1), (i2, S2)] hr (by simp) e fun k hk => by
    simp only [List.mem_cons, List.not_mem_nil, or_false] at hk
    rcases hk with rfl | rfl
    · exact ⟨kidOk_eq m1, o1, g1, k1⟩
    · exact ⟨kidOk_eq m2, o2, g2, k2⟩
theorem OKc_pure {i : Nat} {S1 : List Nat} {o : Oper} (hB : (Region.noSelect l.toArray && stepB l.toArray [] (maskS N S) i) = true) (m1 : kidOk l N S i S1 = true) (g1 : l[i]? = some o)
    (k1 : OKx P n w0 .pure l.toArray (fun F1 _ => OKc P n w0 Lw K l N f S1 F1 L) [o] F Lw) : OKc P n w0 Lw K l N (f + 1) S F L := by
  intro w a hf hp
  simp only [stepB, Bool.and_eq_true, Bool.not_eq_true'] at hB
  obtain ⟨hsel, ⟨⟨hr, hfr⟩, _⟩, hW⟩ := hB
  have hr' : i ∈ Region.ready .any l.toArray (maskS N S) := by simpa using hr
  have hW' : ∀ j ∈ waiters l.toArray i, (maskS N S).getD j true = false := fun j hj => by
    have := List.all_eq_true.1 hW j hj
    simpa using this
  have hi : l.toArray[i]? = some o := by simpa using g1
  have h1 := k1.useP a hf
  have hQ : ∀ c a w, ¬ liftN n w0 K (.panic c) a w := fun c a w h => by cases h.1
  unfold wpPure at h1
  by_cases hw : Region.wanted o (yielded l.toArray a.tmps) = true
  · rw [if_pos hw] at h1
    obtain ⟨v, hv, F', h2, h3⟩ := h1
    refine anyC_first hi (Region.noSelect_spec hsel) hQ (fun _ _ _ h => h) _ _ a w (Region.free_spec hi hfr) hr' hW' (.inl ⟨hw, fun _ w' _ _ hc => hv w' hc⟩) ?_
    rw [← kidOk_eq m1]
    exact OKc.use h3 _ _ h2 hp
  · rw [if_neg hw] at h1
    obtain ⟨F', h2, h3⟩ := h1
    refine anyC_first hi (Region.noSelect_spec hsel) hQ (fun _ _ _ h => h) _ _ a w (Region.free_spec hi hfr) hr' hW' (.inr ⟨by simpa using hw, rfl⟩) ?_
    rw [← kidOk_eq m1]
    exact OKc.use h3 _ _ h2 hp
theorem OK_pureAnyK (N f : Nat) (E : List Nat) (Lw : List Res) {id : Nat} {le : List Oper} (hm : P.follows .mixedOrders = true) (hN : Nat.beq l.length N = true) (hB : (Region.noSelect l.toArray && pureLB l.toArray E (maskS N [])) = true) (hI : (E.all fun i => Nat.ble (i + 1) l.length) = true)
    (hS : ((listE E (maskS N [])).toList == (maskS N E).toList) = true) (hf : Nat.beq (f + E.length) N = true) (e : Ent w0 L Lw) (hE : pickO l E = le) (hK : ∀ F2 L2, K F2 L2 → Q .normal F2 L2)
    (h : OKx P n w0 .pure l.toArray (fun F1 _ => OKc P n w0 Lw K l N f E F1 L) le F Lw) : OK P n w0 Q (.region id l.toArray true) F L := by
  obtain rfl : l.length = N := Nat.eq_of_beq_eq_true hN
  have hf' := Nat.eq_of_beq_eq_true hf
  subst hE
  simp only [Bool.and_eq_true] at hB
  have hS' : listE E (maskS l.length []) = maskS l.length E := Array.toList_inj.1 (beq_iff_eq.1 hS)
  refine OK.mk' fun w a hfr hp => wp_region_any hm ?_
  have e0 : maskS l.length [] = Array.replicate l.toArray.size false := by
    unfold maskS
    apply Array.ext
    · simp
    · intro i h1 h2; simp [memN]
  have key := anyC_pureE (P := P) (ops := l.toArray) (Q := liftN n w0 K) (Cw := fun w => Hp w0.heap.size w0 w Lw) hB.1 (fun c a w h => by cases h.1) f E (pickO l E) (maskS l.length []) a w.drew (pickO_at l E hI) hB.2 (by
    have h1 := h.useP a hfr
    refine wpPure_mono ?_ _ _ h1
    rintro a' ⟨F', h2, h3⟩
    rw [hS']
    exact OKc.use h3 _ _ h2 hp.drew)
  rw [hf', e0] at key
  have key2 := anyC_any _ _ _ _ key
  have wm : ∀ (f : Nat) (ls : Array Bool) (a : Act) (w : World), wpAny P .any l.toArray (liftN n w0 K) f ls a w → wpAny P .any l.toArray (lift n w0 Q) f ls a w := by
    intro f
    induction f with
    | zero =>
      rintro ls a w ⟨h1, _, F', L', h2, h3, h4⟩
      exact ⟨h1, F', L', h2, h3, hK _ _ h4⟩
    | succ f ih =>
      rintro ls a w ⟨h1, h2⟩
      refine ⟨fun h0 => ?_, fun i hi => ?_⟩
      · obtain ⟨_, F', L', h2, h3, h4⟩ := h1 h0
        exact ⟨F', L', h2, h3, hK _ _ h4⟩
      · have h5 := h2 i hi
        unfold wpOp at h5 ⊢
        split
        · rename_i ho
          simp only [ho] at h5
          exact ih _ _ _ h5
        · rename_i o ho
          simp only [ho] at h5
          split
          · rename_i hw
            rw [if_pos hw] at h5
            rcases h5 with h5 | ⟨_, a9, w9, h9, _⟩
            · exact .inl (wp_anyQ (fun c a w h => by cases h.1) (by rintro ⟨a, w, h, _⟩; cases h) (Oper.wp_mono (fun a w h => ih _ _ _ h) h5))
            · cases h9
          · rename_i hw
            rw [if_neg hw] at h5
            exact ih _ _ _ h5
  have h2 := wm _ _ _ _ key2
  have e2 : l.toArray.size = l.length := by simp
  rw [e2]
  rw [e2] at h2
  exact h2
theorem OK_pureAny2 (N f : Nat) (E : List Nat) (Lw : List Res) (W : List Nat) (s1 s2 : Nat) (Mid : Value → Value → List Res → Prop) {id : Nat} {le : List Oper} (hm : P.follows .mixedOrders = true) (hN : Nat.beq l.length N = true) (hB : (Region.noSelect l.toArray && pureLB l.toArray E (maskS N [])) = true) (hI : (E.all fun i => Nat.ble (i + 1) l.length) = true)
    (hS : ((listE E (maskS N [])).toList == (maskS N E).toList) = true) (hf : Nat.beq (f + E.length) N = true) (e : Ent w0 L Lw) (hE : pickO l E = le)
    (h2 : ∀ v1 v2 L1 G, Mid v1 v2 L1 → Q .normal (upd (upd (over W G F) s1 v1) s2 v2) L1) (hQ : ∀ F2 L2 L3, Ent w0 L2 L3 → Q .normal F2 L3 → Q .normal F2 L2)
    (h : OKx P n w0 .pure l.toArray (fun F1 _ => OKc P n w0 Lw (fun F2 L2 => agree W F2 F ∧ ∃ L1, Ent w0 L2 L1 ∧ Mid (F2 (some s1)) (F2 (some s2)) L1) l N f E F1 L) le F Lw) : OK P n w0 Q (.region id l.toArray true) F L := by
  refine OK_pureAnyK N f E Lw hm hN hB hI hS hf e hE ?_ h
  rintro F2 L2 ⟨ha, L1, e1, hM⟩
  have hk := h2 _ _ L1 F2 hM
  rw [← over_upd ha, upd_self, upd_self] at hk
  exact hQ _ _ _ e1 hk
theorem thenQ_entN {c : Code} : ∀ F2 L2 L3, Ent w0 L2 L3 → thenQ (fun F L => OK P n w0 Q c F L) Q .normal F2 L3 → thenQ (fun F L => OK P n w0 Q c F L) Q .normal F2 L2 := fun F2 L2 L3 e h => by
  unfold thenQ at *
  exact OK_ent e h
end
attribute [irreducible] OKc
end Go.Proofs.YtbooccpfdekaiaaDoor
namespace Go.Proofs.YtbooccpfdekaiaaDoor
open Go.RowKit
def Hold (p : Prop) : Prop := p
section
variable {P : Program} {n : Nat} {w0 : World} {Q : Exit → Fm → List Res → Prop} {F : Fm} {L : List Res}
theorem OK_cut (W : List Nat) (s : Nat) (V : Value) (L1 : List Res) {c c2 : Code} (h1 : Hold (OK P n w0 (thenQ (fun F' L' => agree W F' F ∧ F' (some s) = V ∧ Ent w0 L' L1) Q) c F L)) (h2 : ∀ G, OK P n w0 Q c2 (upd (over W G F) s V) L1) : OK P n w0 (thenQ (fun F' L' => OK P n w0 Q c2 F' L') Q) c F L := by
  unfold Hold at h1
  refine OK_mono h1 fun e F' L' h => ?_
  cases e with
  | normal =>
    unfold thenQ at h ⊢
    obtain ⟨ha, hs, he⟩ := h
    have hk := h2 F'
    have e1 : upd (over W F' F) s V = F' := by rw [← over_upd ha, ← hs, upd_self]
    rw [e1] at hk
    exact OK_ent he hk
  | _ => unfold thenQ at h ⊢; exact h
theorem OK_cutL (W : List Nat) (s : Nat) (V : Value) {c c2 : Code} (h1 : Hold (OK P n w0 (thenQ (fun F' L' => agree W F' F ∧ F' (some s) = V ∧ Ent w0 L' L) Q) c F L)) (h2 : ∀ G, OK P n w0 Q c2 (upd (over W G F) s V) L) : OK P n w0 (thenQ (fun F' L' => OK P n w0 Q c2 F' L') Q) c F L := OK_cut W s V L h1 h2
end
section
variable {P : Program} {n : Nat} {w0 : World} {K : Fm → List Res → Prop} {F : Fm} {L0 Lw : List Res} {ops : Array Oper} {rest : List Oper} {d : Option Nat} {ty : TypeId} {pos : String} {aft : Array Edge}
theorem OKx_stBA0 {t sz : Nat} {zs : List Value} [T : TAgg P t sz zs] {e : TypeId} {g : Nat} {cs cs' : List Value} [hE : Keeps w0 (.box e g cs :: L0) Lw] (hsz : (P.info? t).map (·.size) = some sz) {x y : Operand} (hx : rv n F x = .pointer (some ⟨g, 0, none⟩)) (hy : rv n F y = .agg cs'.toArray) (h1 : ∀ u ∈ cs', u.oneCell' = true) (hl : cs'.length = cs.length) (hl2 : cs'.length = sz)
    (kk : OKx P n w0 (.seq Lw) ops K rest (updo F d undef) (.box e g cs' :: L0)) : OKx P n w0 (.seq Lw) ops K (⟨d, .store t x y, ty, pos, aft, none⟩ :: rest) F (.box e g cs :: L0) :=
  OKx_stBA hsz 0 hx hy (List.all_eq_true.2 h1) rfl (by rw [List.toList_toArray, hl]; exact Nat.beq_refl _) (by rw [List.toList_toArray, hl2]; exact Nat.beq_refl _) rfl kk
end
theorem Hold.of {p : Prop} (h : p) : Hold p := h
attribute [irreducible] Hold
end Go.Proofs.YtbooccpfdekaiaaDoor
