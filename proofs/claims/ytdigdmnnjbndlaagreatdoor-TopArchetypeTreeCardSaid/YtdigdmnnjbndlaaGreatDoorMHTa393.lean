/-
  Part 3 of the proof: Data. No statement of the seat is proved here.
-/
import Derived.Test.YtdigdmnnjbndlaaGreatDoorMHTa392
namespace Go.Proofs.YtdigdmnnjbndlaaGreatDoor
open Go.RowKit
theorem ret_bool {a b : Bool} (h : a = b) : Ending.returned (.bool a) = .returned (.bool b) := by rw [h]
theorem ret_int {k : IntKind} {a b : Int} (h : a = b) : Ending.returned (.int k a) = .returned (.int k b) := by rw [h]
def ints (xs : List Int) : List Value := xs.map (Value.int .i64)
def bools (xs : List Bool) : List Value := xs.map Value.bool
theorem ints_len (xs : List Int) : (ints xs).length = xs.length := by simp [ints]
theorem bools_len (xs : List Bool) : (bools xs).length = xs.length := by simp [bools]
theorem ints_get (xs : List Int) (k : Nat) (h : k < xs.length) : (ints xs)[k]? = some (.int .i64 (xs.getD k 0)) := by simp [ints, h]
theorem bools_get (xs : List Bool) (k : Nat) (h : k < xs.length) : (bools xs)[k]? = some (.bool (xs.getD k false)) := by simp [bools, h]
theorem ints_set (xs : List Int) (k : Nat) (x : Int) : (ints xs).set k (.int .i64 x) = ints (xs.set k x) := by simp [ints, List.map_set]
theorem bools_set (xs : List Bool) (k : Nat) (x : Bool) : (bools xs).set k (.bool x) = bools (xs.set k x) := by simp [bools, List.map_set]
theorem ints_snoc (xs : List Int) (x : Int) : ints xs ++ [.int .i64 x] = ints (xs ++ [x]) := by simp [ints]
def Ints (w : World) (v : Value) (xs : List Int) : Prop := Sl w v 1 xs.length (fun j => .int .i64 (xs.getD j 0))
def Bools (w : World) (v : Value) (xs : List Bool) : Prop := Sl w v 1 xs.length (fun j => .bool (xs.getD j false))
def Strs (w : World) (v : Value) (xs : List ByteArray) : Prop := Sl w v 1 xs.length (fun j => .string (xs.getD j ByteArray.empty)) ∧ ∀ s ∈ xs, s.size ≤ 140737488355328
def Tabs (w : World) (v : Value) (xs : List (List Int)) : Prop :=
  ∃ vs : List Value, Sl w v 1 xs.length (fun j => vs.getD j undef) ∧ vs.length = xs.length ∧ ∀ j, (h : j < xs.length) → Ints w (vs.getD j undef) xs[j]
structure Stem where
  names : List ByteArray
  ext : List Bool
  par : List (List Int)
def Stm (w : World) (v : Value) (s : Stem) : Prop := ∃ nv ev pv, v = .agg #[nv, ev, pv] ∧ Strs w nv s.names ∧ Bools w ev s.ext ∧ Tabs w pv s.par
section
variable {w w' : World} {v : Value}
theorem Ints.below {xs : List Int} (h : Ints w v xs) (hb : Below w.heap.size w w') : Ints w' v xs := Sl.below h hb
theorem Bools.below {xs : List Bool} (h : Bools w v xs) (hb : Below w.heap.size w w') : Bools w' v xs := Sl.below h hb
theorem Strs.below {xs : List ByteArray} (h : Strs w v xs) (hb : Below w.heap.size w w') : Strs w' v xs := ⟨Sl.below h.1 hb, h.2⟩
theorem Tabs.below {xs : List (List Int)} (h : Tabs w v xs) (hb : Below w.heap.size w w') : Tabs w' v xs := by
  obtain ⟨vs, h1, h2, h3⟩ := h
  exact ⟨vs, h1.below hb, h2, fun j hj => (h3 j hj).below hb⟩
theorem Stm.below {s : Stem} (h : Stm w v s) (hb : Below w.heap.size w w') : Stm w' v s := by
  obtain ⟨nv, ev, pv, hv, h1, h2, h3⟩ := h
  exact ⟨nv, ev, pv, hv, h1.below hb, h2.below hb, h3.below hb⟩
theorem Sl.shape {sz n : Nat} {f : Nat → Value} (h : Sl w v sz n f) : ∃ a cap, v = .slice a n cap ∧ n ≤ 140737488355328 ∧ ∀ j, j < n * sz → ∃ b off, a = some ⟨b, off, none⟩ ∧ w.cell? ⟨b, off + j, none⟩ = some (f j) := by
  obtain ⟨hl, ⟨a, cap, hv, hc⟩, _⟩ := h
  refine ⟨a, cap, hv, hl, fun j hj => ?_⟩
  rcases hc with h0 | ⟨b, off, ha, hc⟩
  · rw [h0, Nat.zero_mul] at hj;omega
  · exact ⟨b, off, ha, hc j hj⟩
theorem Ints.at {xs : List Int} (h : Ints w v xs) : ∃ a cap, v = .slice a xs.length cap ∧ xs.length ≤ 140737488355328 ∧ ∀ j, (hj : j < xs.length) → ∃ b off, a = some ⟨b, off, none⟩ ∧ w.cell? ⟨b, off + j, none⟩ = some (.int .i64 xs[j]) := by
  obtain ⟨a, cap, hv, hl, hc⟩ := Sl.shape h
  refine ⟨a, cap, hv, hl, fun j hj => ?_⟩
  obtain ⟨b, off, ha, hc⟩ := hc j (by omega)
  exact ⟨b, off, ha, by rw [hc]; simp [hj]⟩
theorem Bools.at {xs : List Bool} (h : Bools w v xs) : ∃ a cap, v = .slice a xs.length cap ∧ xs.length ≤ 140737488355328 ∧ ∀ j, (hj : j < xs.length) → ∃ b off, a = some ⟨b, off, none⟩ ∧ w.cell? ⟨b, off + j, none⟩ = some (.bool xs[j]) := by
  obtain ⟨a, cap, hv, hl, hc⟩ := Sl.shape h
  refine ⟨a, cap, hv, hl, fun j hj => ?_⟩
  obtain ⟨b, off, ha, hc⟩ := hc j (by omega)
  exact ⟨b, off, ha, by rw [hc]; simp [hj]⟩
theorem Strs.at {xs : List ByteArray} (h : Strs w v xs) : ∃ a cap, v = .slice a xs.length cap ∧ xs.length ≤ 140737488355328 ∧ ∀ j, (hj : j < xs.length) → xs[j].size ≤ 140737488355328 ∧ ∃ b off, a = some ⟨b, off, none⟩ ∧ w.cell? ⟨b, off + j, none⟩ = some (.string xs[j]) := by
  obtain ⟨a, cap, hv, hl, hc⟩ := Sl.shape h.1
  refine ⟨a, cap, hv, hl, fun j hj => ⟨h.2 _ (List.getElem_mem hj), ?_⟩⟩
  obtain ⟨b, off, ha, hc⟩ := hc j (by omega)
  exact ⟨b, off, ha, by rw [hc]; simp [hj]⟩
theorem Tabs.at {xs : List (List Int)} (h : Tabs w v xs) : ∃ a cap, v = .slice a xs.length cap ∧ xs.length ≤ 140737488355328 ∧ ∀ j, (hj : j < xs.length) → ∃ b off u, a = some ⟨b, off, none⟩ ∧ w.cell? ⟨b, off + j, none⟩ = some u ∧ Ints w u xs[j] := by
  obtain ⟨vs, h1, h2, h3⟩ := h
  obtain ⟨a, cap, hv, hl, hc⟩ := Sl.shape h1
  refine ⟨a, cap, hv, hl, fun j hj => ?_⟩
  obtain ⟨b, off, ha, hc⟩ := hc j (by omega)
  exact ⟨b, off, _, ha, hc, h3 j hj⟩
end
variable {B : Nat} {w0 w : World} {L : List Res}
theorem Hp.ints (h : Hp B w0 w L) (i : Nat) {e : TypeId} {n : Nat} {v : Value} {xs : List Int} (hi : L[i]? = some (.row e 1 v n (ints xs))) (hn : n ≤ 140737488355328) : Ints w v xs := by
  have hl : n = xs.length := by
    have ho : w.ownsRow B e 1 v n (Go.Proofs.YtdigdmnnjbndlaaGreatDoor.ints xs) := h.ok _ (List.mem_of_getElem? hi)
    have := ho.1
    rw [ints_len] at this
    omega
  subst hl
  exact h.sl i hi hn (fun j hj => ints_get xs j (by omega))
theorem Hp.bools (h : Hp B w0 w L) (i : Nat) {e : TypeId} {n : Nat} {v : Value} {xs : List Bool} (hi : L[i]? = some (.row e 1 v n (bools xs))) (hn : n ≤ 140737488355328) : Bools w v xs := by
  have hl : n = xs.length := by
    have ho : w.ownsRow B e 1 v n (Go.Proofs.YtdigdmnnjbndlaaGreatDoor.bools xs) := h.ok _ (List.mem_of_getElem? hi)
    have := ho.1
    rw [bools_len] at this
    omega
  subst hl
  exact h.sl i hi hn (fun j hj => bools_get xs j (by omega))
abbrev irow (v : Value) (xs : List Int) : Res := .row 3 1 v xs.length (Go.Proofs.YtdigdmnnjbndlaaGreatDoor.ints xs)
end Go.Proofs.YtdigdmnnjbndlaaGreatDoor
