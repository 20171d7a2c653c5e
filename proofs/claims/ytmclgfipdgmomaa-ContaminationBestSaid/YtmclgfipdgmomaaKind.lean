/-
  Walks of the functions Kind (charset, apographref01). No statement of the seat is proved here.
-/
import Derived.Test.YtmclgfipdgmomaaRows
import Derived.WalkKit
import Derived.WalkSpells
import Derived.WalkLawsBesides
import Derived.Lib.Hide
import Derived.Test.YtmclgfipdgmomaaShelf
namespace Go.Proofs.Ytmclgfipdgmomaa
open Go.RowKit

theorem kret {a b : Int} (h : a = b) : Ending.returned (.int .i64 a) = .returned (.int .i64 b) := by rw [h]

/-- The kind of a character. -/
def kind (n : Int) : Int :=
  if (97 ≤ n ∧ n ≤ 122) ∨ (65 ≤ n ∧ n ≤ 90) then 1
  else if n = 94 ∨ n = 126 ∨ n = 37 then 2
  else if 48 ≤ n ∧ n ≤ 57 then 3
  else if n = 39 then 4
  else if n = 32 then 6
  else if n = 46 ∨ n = 44 ∨ n = 59 ∨ n = 58 ∨ n = 33 ∨ n = 63 ∨ n = 40 ∨ n = 41 ∨ n = 45 then 5
  else 0

theorem punct_at (n : Int) (h0 : 0 ≤ n) (h1 : n ≤ 255) : (0 ≤ Lib.indexByte [46, 44, 59, 58, 33, 63, 40, 41, 45] (UInt8.ofNat n.toNat)) ↔ (n = 46 ∨ n = 44 ∨ n = 59 ∨ n = 58 ∨ n = 33 ∨ n = 63 ∨ n = 40 ∨ n = 41 ∨ n = 45) := by
  obtain ⟨k, rfl⟩ := Int.eq_ofNat_of_zero_le h0
  have hk : k < 256 := by omega
  clear h0 h1
  have : ∀ k : Fin 256, (0 ≤ Lib.indexByte [46, 44, 59, 58, 33, 63, 40, 41, 45] (UInt8.ofNat (k.val : Int).toNat)) ↔ ((k.val : Int) = 46 ∨ (k.val : Int) = 44 ∨ (k.val : Int) = 59 ∨ (k.val : Int) = 58 ∨ (k.val : Int) = 33 ∨ (k.val : Int) = 63 ∨ (k.val : Int) = 40 ∨ (k.val : Int) = 41 ∨ (k.val : Int) = 45) := by decide +kernel
  exact this ⟨k, hk⟩

set_option maxHeartbeats 1000000 in
theorem kind_any (n : Int) (h0 : 0 ≤ n) (h1 : n ≤ 255) (w : World) :
    Calls Try.prog 137 #[.int .u8 n] w fun e w' => e = .returned (.int .i64 (kind n)) ∧ w = w' := by
  have HP := Lib.hid (punct_at n h0 h1)
  go_enter Try.func137, Try.ntmps137
  go_wp2_with (go_at_call 140; refine (Try.strings_IndexByte _ _ _).mono ?_; rintro e w' ⟨rfl, rfl⟩)
  all_goals
    go_ret
    refine ⟨kret ?_, rfl⟩
    have hp := HP.out
    try simp only [beq_iff_eq, beq_eq_false_iff_ne, bne_iff_ne, ne_eq, bne_eq_false_iff_eq] at *
    unfold kind
    first | (repeat' split) <;> omega | decide

set_option maxHeartbeats 2000000 in
theorem rkind_any (n : Int) (h0 : 0 ≤ n) (h1 : n ≤ 255) (w : World) :
    Calls Try.prog 131 #[.int .u8 n] w fun e w' => e = .returned (.int .i64 (kind n)) ∧ w = w' := by
  go_enter Try.func131, Try.ntmps131
  go_wp2_with fail
  all_goals
    go_ret
    refine ⟨kret ?_, rfl⟩
    try simp only [beq_iff_eq, beq_eq_false_iff_ne, ne_eq] at *
    unfold kind
    first | (repeat' split) <;> omega | decide
end Go.Proofs.Ytmclgfipdgmomaa
