/-
  Small lemmas for the fast walk, and what the library's functions do in its words. No statement of the seat is proved here.
-/
import Derived.Test.YtmclgfipdgmomaaFi
import Derived.Test.YtmclgfipdgmomaaLibf
import Derived.Test.YtmclgfipdgmomaaList
namespace Go.Proofs.Ytmclgfipdgmomaa
open Go.RowKit

theorem Sl.bound {w : World} {v : Value} {sz n : Nat} {f : Nat → Value} (h : Sl w v sz n f) : n ≤ 140737488355328 := h.len
theorem bool_eq {a b : Bool} (h : a = b) : Value.bool a = Value.bool b := by rw [h]
theorem int_eq {k : IntKind} {a b : Int} (h : a = b) : Value.int k a = Value.int k b := by rw [h]
theorem getD_lt {α : Type} (xs : List α) (k : Nat) (d : α) (h : k < xs.length) : xs.getD k d = xs[k] := by simp [h]
theorem getD_ge {α : Type} (xs : List α) (k : Nat) (d : α) (h : xs.length ≤ k) : xs.getD k d = d := by simp [List.getD_eq_getElem?_getD, List.getElem?_eq_none h]
theorem Sl.congr {w : World} {v : Value} {sz n : Nat} {f g : Nat → Value} (h : Sl w v sz n f) (e : ∀ j, j < n * sz → f j = g j) : Sl w v sz n g := by
  refine ⟨h.len, ?_, h.room⟩
  obtain ⟨a, cap, hv, hc⟩ := h.out
  refine ⟨a, cap, hv, ?_⟩
  rcases hc with h0 | ⟨b, off, ha, hc⟩
  · exact .inl h0
  · exact .inr ⟨b, off, ha, fun j hj => by rw [hc j hj, e j hj]⟩
theorem Ints.sl {w : World} {v : Value} {xs : List Int} (h : Ints w v xs) : Sl w v 1 xs.length (fun j => .int .i64 (xs.getD j 0)) := h
theorem Bools.sl {w : World} {v : Value} {xs : List Bool} (h : Bools w v xs) : Sl w v 1 xs.length (fun j => .bool (xs.getD j false)) := h
theorem Strs.sl {w : World} {v : Value} {xs : List ByteArray} (h : Strs w v xs) : Sl w v 1 xs.length (fun j => .string (xs.getD j ByteArray.empty)) := h.1
theorem Strs.le {w : World} {v : Value} {xs : List ByteArray} (h : Strs w v xs) (j : Nat) : (xs.getD j ByteArray.empty).size ≤ 140737488355328 := by
  by_cases hj : j < xs.length
  · rw [getD_lt _ _ _ hj]; exact h.2 _ (List.getElem_mem hj)
  · rw [getD_ge _ _ _ (by omega)]; exact Nat.zero_le _
theorem Ints.nil (w : World) : Ints w (.slice none 0 0) [] := ⟨by simp, ⟨_, _, rfl, .inl rfl⟩, fun a m c h => by simp only [Value.slice.injEq] at h; omega⟩
/-- A slice of slices: the rows' values, and what each reads. -/
theorem Tabs.rows {w : World} {v : Value} {xs : List (List Int)} (h : Tabs w v xs) : ∃ fv : Nat → Value, Sl w v 1 xs.length fv ∧ ∀ j, Ints w (fv j) (xs.getD j []) := by
  obtain ⟨vs, h1, h2, h3⟩ := h
  refine ⟨fun j => if j < xs.length then vs.getD j undef else .slice none 0 0, h1.congr fun j hj => by rw [if_pos (by omega)], fun j => ?_⟩
  by_cases hj : j < xs.length
  · simp only [if_pos hj]; rw [getD_lt xs j [] hj]; exact h3 j hj
  · simp only [if_neg hj]; rw [getD_ge xs j [] (by omega)]; exact Ints.nil w

theorem hasI_hit (xs : List Int) (n : Int) (k : Nat) (h : k < xs.length) (e : xs.getD k 0 = n) : hasI xs n = true := by
  rw [getD_lt _ _ _ h] at e; subst e; simp [hasI]
theorem hasI_step (xs : List Int) (n : Int) (k : Nat) (h : k < xs.length) (h0 : hasI (xs.take k) n = false) (e : xs.getD k 0 ≠ n) : hasI (xs.take (k + 1)) n = false :=
  contains_snoc xs n k h h0 (by rw [getD_lt _ _ _ h] at e; simpa using e)
theorem hasI_end (xs : List Int) (n : Int) (k : Nat) (h : xs.length ≤ k) (h0 : hasI (xs.take k) n = false) : hasI xs n = false := by
  rwa [List.take_of_length_le h] at h0

/-! ### The library -/
set_option maxRecDepth 100000 in
set_option maxHeartbeats 4000000 in
theorem contains_int_sat (v : Value) (xs : List Int) (x : Int) (w : World) (h : Ints w v xs) : SatV Try.prog 28 [v, .int .i64 x] w (.bool (hasI xs x)) :=
  Sat.lib ⟨_, _, Try.func28, by kernel_rfl, rfl⟩ fun w1 hb => (contains_int v xs x w1 (h.below hb)).mono fun e w' ⟨h1, h2⟩ => ⟨_, [], h1, by rw [← h2]; exact Hp.refl w1, rfl, rfl⟩
set_option maxRecDepth 100000 in
set_option maxHeartbeats 4000000 in
theorem equal_int_sat (v u : Value) (xs ys : List Int) (w : World) (h : Ints w v xs) (k : Ints w u ys) : SatV Try.prog 25 [v, u] w (.bool (xs == ys)) :=
  Sat.lib ⟨_, _, Try.func25, by kernel_rfl, rfl⟩ fun w1 hb => (equal_int v u xs ys w1 (h.below hb) (k.below hb)).mono fun e w' ⟨h1, h2⟩ => ⟨_, [], h1, h2.hp, rfl, rfl⟩
set_option maxRecDepth 100000 in
set_option maxHeartbeats 4000000 in
theorem clone_int_sat (v : Value) (xs : List Int) (w : World) (h : Ints w v xs) (hb : xs.length ≤ 1000000) : Sat Try.prog 30 [v] w (fun u L => L = [irow u xs]) :=
  Sat.lib ⟨_, _, Try.func30, by kernel_rfl, rfl⟩ fun w1 hb' => (clone_int v xs w1 (h.below hb') hb).mono fun e w' ⟨u, h1, h2⟩ => ⟨u, _, h1, h2, rfl⟩
end Go.Proofs.Ytmclgfipdgmomaa
