/-
  The check of a stemma: layer 36's Check and its reference compute the same number. No statement of the seat is proved here.
-/
import Derived.Test.YtmclgfipdgmomaaLeaf
import Derived.Test.YtmclgfipdgmomaaList
import Derived.Deep.QuietTactic
import Derived.BigQuiet
namespace Go.Proofs.Ytmclgfipdgmomaa
open Go.RowKit

/-- The first of n numbers that is not 0. -/
def firstErr (f : Nat → Int) : Nat → Int
  | 0 => 0
  | n + 1 => if firstErr f n ≠ 0 then firstErr f n else f n
theorem firstErr_hit (f : Nat → Int) (k n : Nat) (h0 : firstErr f k = 0) (h1 : f k ≠ 0) (hk : k < n) : firstErr f n = f k := by
  induction n with
  | zero => omega
  | succ n ih =>
    rw [firstErr]
    rcases Nat.lt_or_ge k n with h | h
    · rw [ih h, if_pos h1]
    · obtain rfl : n = k := by omega
      rw [if_neg (by rw [h0]; simp)]
theorem firstErr_step (f : Nat → Int) (k : Nat) (h0 : firstErr f k = 0) (h1 : f k = 0) : firstErr f (k + 1) = 0 := by
  rw [firstErr, if_neg (by rw [h0]; simp), h1]
theorem firstErr_zero (f : Nat → Int) (n : Nat) (h : firstErr f n = 0) : ∀ k, k < n → f k = 0 := by
  induction n with
  | zero => intro k hk; omega
  | succ n ih =>
    rw [firstErr] at h
    by_cases h0 : firstErr f n = 0
    · rw [if_neg (by rw [h0]; simp)] at h
      intro k hk
      rcases Nat.lt_or_ge k n with h1 | h1
      · exact ih h0 k h1
      · obtain rfl : k = n := by omega
        exact h
    · rw [if_pos h0] at h; exact absurd h h0

def incB (xs : List Int) : Bool := decide (xs.Pairwise (· < ·))
theorem incB_of (xs : List Int) (h : ∀ j, 1 ≤ j → (hj : j < xs.length) → xs[j - 1] < xs[j]) : incB xs = true := by
  have key : ∀ d i, (hi : i + d + 1 < xs.length) → xs[i]'(by omega) < xs[i + d + 1] := by
    intro d
    induction d with
    | zero => intro i hi; have := h (i + 1) (by omega) hi; simpa using this
    | succ d ih =>
      intro i hi
      have h1 := ih i (by omega)
      have h2 := h (i + (d + 1) + 1) (by omega) hi
      simp only [Nat.add_sub_cancel] at h2
      have e : xs[i + (d + 1)]'(by omega) = xs[i + d + 1]'(by omega) := rfl
      omega
  unfold incB
  rw [decide_eq_true_eq, List.pairwise_iff_getElem]
  intro i j hi hj hij
  obtain ⟨d, rfl⟩ : ∃ d, j = i + d + 1 := ⟨j - i - 1, by omega⟩
  exact key d i hj
theorem incB_not (xs : List Int) (k : Nat) (h1 : 1 ≤ k) (hk : k < xs.length) (h : xs[k] ≤ xs[k - 1]) : incB xs = false := by
  unfold incB
  rw [decide_eq_false_iff_not, List.pairwise_iff_getElem]
  intro hp
  have := hp (k - 1) k (by omega) hk (by omega)
  omega

def rngB (xs : List Int) (i : Nat) : Bool := xs.any fun p => decide (p < 0) || decide ((i : Int) ≤ p)
def stAt (s : Stem) (i : Nat) : Int :=
  if leafNm (s.names.getD i ByteArray.empty) = false then 14
  else if Lib.containsS (s.names.take i) (s.names.getD i ByteArray.empty) = true then 7
  else if rngB (s.par.getD i []) i = true then 2
  else if incB (s.par.getD i []) = false then 10 else 0
def stCheck (s : Stem) : Int :=
  if s.names.length = 0 then 5 else if 64 < s.names.length then 4
  else if s.ext.length ≠ s.names.length ∨ s.par.length ≠ s.names.length then 9
  else firstErr (stAt s) s.names.length

theorem Strs.take {w : World} {a : Option Addr} {n cap : Nat} {xs : List ByteArray} (h : Strs w (.slice a n cap) xs) (k cap' : Nat) (hk : k ≤ xs.length) (hcap : k ≤ cap') : Strs w (.slice a k cap') (xs.take k) := by
  obtain ⟨⟨hl, ⟨a', c', hv, hc⟩, _⟩, h2⟩ := h
  simp only [Value.slice.injEq] at hv
  obtain ⟨rfl, rfl, rfl⟩ := hv
  have hlen : (xs.take k).length = k := by rw [List.length_take]; omega
  refine ⟨⟨by omega, ⟨a, cap', by rw [hlen], ?_⟩, fun a1 m c hv => ?_⟩, fun s hs => h2 s (List.mem_of_mem_take hs)⟩
  case refine_2 =>
    simp only [Value.slice.injEq] at hv
    omega
  rw [hlen]
  rcases hc with h0 | ⟨b, off, ha, hc⟩
  · left; omega
  · right
    refine ⟨b, off, ha, fun j hj => ?_⟩
    rw [hc j (by omega)]
    have : (xs.take k).getD j ByteArray.empty = xs.getD j ByteArray.empty := by
      simp only [List.getD_eq_getElem?_getD, List.getElem?_take, if_pos (show j < k by omega)]
    rw [this]

set_option maxHeartbeats 1000000 in
theorem check1_any (x i : Int) (a : Addr) (w : World) (ha : w.cell? a = some (.int .i64 i)) :
    Calls Try.prog 81 #[.int .i64 x, .pointer (some a)] w fun e w' => e = .returned (.bool (decide (x < 0) || decide (i ≤ x))) ∧ w = w' := by
  by_cases h : x < 0
  · go_enter Try.func81, Try.ntmps81
    go_wp2
    go_ret
    exact ⟨ret_bool (by simp [h]), rfl⟩
  · by_cases h2 : i ≤ x
    · go_enter Try.func81, Try.ntmps81
      go_wp2
      go_ret
      exact ⟨ret_bool (by simp [h2]), rfl⟩
    · go_enter Try.func81, Try.ntmps81
      go_wp2
      go_ret
      exact ⟨ret_bool (by simp [h, h2]), rfl⟩

theorem check1_pred (i : Nat) (a : Addr) (w : World) (xs : List Int) (ha : w.cell? a = some (.int .i64 i)) : PredI 81 #[.pointer (some a)] w xs (fun p => decide (p < 0) || decide ((i : Int) ≤ p)) :=
  ⟨enters_of Try.func81 (by kernel_rfl) rfl, fun x _ w1 hq => (check1_any x i a w1 ((hq.cell a).trans ha)).mono fun e w' ⟨h1, h2⟩ => ⟨h1, Quiet.of_eq h2⟩⟩
theorem range_any (v : Value) (xs : List Int) (i : Nat) (a : Addr) (w : World) (h : Ints w v xs) (ha : w.cell? a = some (.int .i64 i)) :
    Calls Try.prog 45 #[v, .func (.func 81) #[] #[.pointer (some a)]] w fun e w' => e = .returned (.bool (rngB xs i)) ∧ Quiet w w' :=
  containsFunc_int v xs _ _ _ w h (check1_pred i a w xs ha)
end Go.Proofs.Ytmclgfipdgmomaa
