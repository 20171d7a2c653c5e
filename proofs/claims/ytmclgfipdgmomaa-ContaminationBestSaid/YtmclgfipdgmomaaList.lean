/-
  Walks of the searches in lists (apographref36, apographref37) and the plain words of layer 36's check. No statement of the seat is proved here.
-/
import Derived.Test.YtmclgfipdgmomaaLibf
namespace Go.Proofs.Ytmclgfipdgmomaa
open Go.RowKit

theorem contains_snoc (xs : List Int) (n : Int) (k : Nat) (h : k < xs.length) (h0 : hasI (xs.take k) n = false) (h1 : (xs[k] == n) = false) : hasI (xs.take (k + 1)) n = false := by
  rw [List.take_succ_eq_append_getElem h]
  unfold hasI at *
  simp only [List.contains_eq_mem, decide_eq_false_iff_not, List.mem_append, List.mem_singleton] at *
  intro hc
  rcases hc with hc | hc
  · exact h0 hc
  · rw [beq_eq_false_iff_ne] at h1; exact h1 hc.symm
theorem contains_hit (xs : List Int) (n : Int) (k : Nat) (h : k < xs.length) (e : (xs[k] == n) = true) : hasI xs n = true := by
  have : xs[k] = n := by simpa using e
  rw [← this]; simp [hasI]

set_option maxHeartbeats 1000000 in
theorem has36_any (v : Value) (xs : List Int) (n : Int) (w : World) (h : Ints w v xs) :
    Calls Try.prog 100 #[v, .int .i64 n] w fun e w' => e = .returned (.bool (hasI xs n)) ∧ w = w' := by
  obtain ⟨a, cap, rfl, hl, hc⟩ := h.at
  have HC := Lib.hid hc; clear hc
  go_enter Try.func100, Try.ntmps100
  go_wp2
  go_loop [5] (fun i => ∃ k : Nat, k ≤ xs.length ∧ i = .int .i64 k ∧ Hid (hasI (xs.take k) n = false)) (fun i => xs.length - (intOf i).toNat)
  case atStart => exact ⟨0, Nat.zero_le _, rfl, rfl⟩
  case round =>
    obtain ⟨k, hk, rfl, H⟩ := hrel
    by_cases hlt : k < xs.length
    · obtain ⟨b, off, rfl, hcell⟩ := HC.out k hlt
      cases he : (xs[k] == n) with
      | true =>
        go_wp2
        go_ret
        exact ⟨ret_bool (contains_hit xs n k hlt he).symm, rfl⟩
      | false =>
        go_wp2
        go_round
        case rel => exact ⟨k + 1, by omega, by go_num, contains_snoc xs n k hlt H.out he⟩
        case measure => simp [intOf]; omega
    · go_wp2
      go_ret
      exact ⟨ret_bool (by rw [← H.out, List.take_of_length_le (by omega)]), rfl⟩

theorem str_beq (a b : ByteArray) : (a.toList == b.toList) = true ↔ a = b := by
  rw [beq_iff_eq, ByteArray.toList_eq, ByteArray.toList_eq]
  exact ⟨fun h => Go.WideShapes.bytes_inj h, fun h => by rw [h]⟩
theorem str_bne (a b : ByteArray) : (a.toList == b.toList) = false ↔ a ≠ b := by
  rw [← Bool.not_eq_true, str_beq]

set_option maxHeartbeats 1000000 in
theorem place_any (v : Value) (xs : List ByteArray) (s : ByteArray) (w : World) (h : Strs w v xs) :
    Calls Try.prog 71 #[v, .string s] w fun e w' => e = .returned (.int .i64 (Lib.idxOfS xs s)) ∧ w = w' := by
  obtain ⟨a, cap, rfl, hl, hc⟩ := h.at
  have HC := Lib.hid hc; clear hc
  go_enter Try.func71, Try.ntmps71
  go_wp2
  go_loop [5] (fun i => ∃ k : Nat, k ≤ xs.length ∧ i = .int .i64 k ∧ Hid (∀ j, j < k → xs.getD j ByteArray.empty ≠ s)) (fun i => xs.length - (intOf i).toNat)
  case atStart => exact ⟨0, Nat.zero_le _, rfl, fun j hj => absurd hj (by omega)⟩
  case round =>
    obtain ⟨k, hk, rfl, H⟩ := hrel
    by_cases hlt : k < xs.length
    · obtain ⟨hsz, b, off, rfl, hcell⟩ := HC.out k hlt
      have hx : xs.getD k ByteArray.empty = xs[k] := by simp [hlt]
      have HX := Lib.hid hx; clear hx
      generalize xs[k] = x at *
      cases he : (x.toList == s.toList) with
      | true =>
        go_wp2
        go_ret
        refine ⟨ret_int ?_, rfl⟩
        have := Lib.idxOfS_hit xs xs.length k s hlt (Nat.le_refl _) (by rw [HX.out]; exact (str_beq x s).1 he) H.out
        rw [List.take_length] at this
        exact this.symm
      | false =>
        go_wp2
        go_round
        case rel =>
          refine ⟨k + 1, by omega, by go_num, fun j hj => ?_⟩
          rcases Nat.lt_or_ge j k with h1 | h1
          · exact H.out j h1
          · obtain rfl : j = k := by omega
            rw [HX.out]; exact (str_bne x s).1 he
        case measure => simp [intOf]; omega
    · obtain rfl : k = xs.length := by omega
      go_wp2
      go_ret
      refine ⟨ret_int ?_, rfl⟩
      have := Lib.idxOfS_miss xs xs.length s H.out
      rw [List.take_length] at this
      exact this.symm
end Go.Proofs.Ytmclgfipdgmomaa
