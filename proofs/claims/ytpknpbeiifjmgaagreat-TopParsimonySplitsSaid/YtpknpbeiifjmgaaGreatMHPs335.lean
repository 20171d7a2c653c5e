/-
  Part 5 of the proof: Fi, Ls, Fq, Func, Srt, Fx, Kind. No statement of the seat is proved here.
-/
import Derived.Test.YtpknpbeiifjmgaaGreatMHPs334
import Derived.Test.YtpknpbeiifjmgaaGreatRows
import Derived.Sort.OwnSortedInts
import Derived.WalkKit
import Derived.WalkSpells
import Derived.WalkLawsBesides
import Derived.Lib.Hide
namespace Go.Proofs.YtpknpbeiifjmgaaGreat
instance : TOne Tryz.prog 1 (.nilFunc) := ⟨fun w => by kernel_rfl, fun w => by kernel_rfl, fun w => by kernel_rfl, rfl⟩
instance : TOne Tryz.prog 2 (.int .i64 0) := ⟨fun w => by kernel_rfl, fun w => by kernel_rfl, fun w => by kernel_rfl, rfl⟩
instance : TOne Tryz.prog 3 (.int .i64 0) := ⟨fun w => by kernel_rfl, fun w => by kernel_rfl, fun w => by kernel_rfl, rfl⟩
instance : TOne Tryz.prog 4 (.bool false) := ⟨fun w => by kernel_rfl, fun w => by kernel_rfl, fun w => by kernel_rfl, rfl⟩
instance : TOne Tryz.prog 5 (.int .u8 0) := ⟨fun w => by kernel_rfl, fun w => by kernel_rfl, fun w => by kernel_rfl, rfl⟩
instance : TOne Tryz.prog 9 (.string ⟨#[]⟩) := ⟨fun w => by kernel_rfl, fun w => by kernel_rfl, fun w => by kernel_rfl, rfl⟩
instance : TStr Tryz.prog 9 := ⟨by kernel_rfl⟩
instance : TOne Tryz.prog 12 (.int .u64 0) := ⟨fun w => by kernel_rfl, fun w => by kernel_rfl, fun w => by kernel_rfl, rfl⟩
instance : TAgg Tryz.prog 13 2 [.string ⟨#[]⟩, .int .u64 0] := ⟨fun w => by kernel_rfl, fun w => by kernel_rfl, fun w => by kernel_rfl⟩
instance : TFld Tryz.prog 13 0 0 9 := ⟨by kernel_rfl, by kernel_rfl⟩
instance : TFld Tryz.prog 13 1 1 12 := ⟨by kernel_rfl, by kernel_rfl⟩
instance : TStruct Tryz.prog 13 [(0, 1), (1, 1)] := ⟨by kernel_rfl⟩
instance : TOne Tryz.prog 20 (.nilIface) := ⟨fun w => by kernel_rfl, fun w => by kernel_rfl, fun w => by kernel_rfl, rfl⟩
instance : TOne Tryz.prog 21 (.int .i32 0) := ⟨fun w => by kernel_rfl, fun w => by kernel_rfl, fun w => by kernel_rfl, rfl⟩
instance : TOne Tryz.prog 22 (.slice none 0 0) := ⟨fun w => by kernel_rfl, fun w => by kernel_rfl, fun w => by kernel_rfl, rfl⟩
instance : TSlice Tryz.prog 22 3 1 8 (.int .i64 0) := ⟨⟨by kernel_rfl, by kernel_rfl, rfl, by decide⟩⟩
instance : TOne Tryz.prog 23 (.slice none 0 0) := ⟨fun w => by kernel_rfl, fun w => by kernel_rfl, fun w => by kernel_rfl, rfl⟩
instance : TSlice Tryz.prog 23 9 1 16 (.string ⟨#[]⟩) := ⟨⟨by kernel_rfl, by kernel_rfl, rfl, by decide⟩⟩
instance : TAgg Tryz.prog 24 2 [.slice none 0 0, .slice none 0 0] := ⟨fun w => by kernel_rfl, fun w => by kernel_rfl, fun w => by kernel_rfl⟩
instance : TFld Tryz.prog 24 0 0 22 := ⟨by kernel_rfl, by kernel_rfl⟩
instance : TFld Tryz.prog 24 1 1 23 := ⟨by kernel_rfl, by kernel_rfl⟩
instance : TStruct Tryz.prog 24 [(0, 1), (1, 1)] := ⟨by kernel_rfl⟩
instance : TAgg Tryz.prog 25 2 [.slice none 0 0, .slice none 0 0] := ⟨fun w => by kernel_rfl, fun w => by kernel_rfl, fun w => by kernel_rfl⟩
instance : TFld Tryz.prog 25 0 0 22 := ⟨by kernel_rfl, by kernel_rfl⟩
instance : TFld Tryz.prog 25 1 1 23 := ⟨by kernel_rfl, by kernel_rfl⟩
instance : TStruct Tryz.prog 25 [(0, 1), (1, 1)] := ⟨by kernel_rfl⟩
instance : TOne Tryz.prog 27 (.nilFunc) := ⟨fun w => by kernel_rfl, fun w => by kernel_rfl, fun w => by kernel_rfl, rfl⟩
instance : TOne Tryz.prog 28 (.nilFunc) := ⟨fun w => by kernel_rfl, fun w => by kernel_rfl, fun w => by kernel_rfl, rfl⟩
instance : TOne Tryz.prog 29 (.nilFunc) := ⟨fun w => by kernel_rfl, fun w => by kernel_rfl, fun w => by kernel_rfl, rfl⟩
instance : TOne Tryz.prog 30 (.nilFunc) := ⟨fun w => by kernel_rfl, fun w => by kernel_rfl, fun w => by kernel_rfl, rfl⟩
instance : TOne Tryz.prog 31 (.nilFunc) := ⟨fun w => by kernel_rfl, fun w => by kernel_rfl, fun w => by kernel_rfl, rfl⟩
instance : TOne Tryz.prog 32 (.nilFunc) := ⟨fun w => by kernel_rfl, fun w => by kernel_rfl, fun w => by kernel_rfl, rfl⟩
instance : TOne Tryz.prog 33 (.nilFunc) := ⟨fun w => by kernel_rfl, fun w => by kernel_rfl, fun w => by kernel_rfl, rfl⟩
instance : TOne Tryz.prog 34 (.nilFunc) := ⟨fun w => by kernel_rfl, fun w => by kernel_rfl, fun w => by kernel_rfl, rfl⟩
instance : TOne Tryz.prog 35 (.int .i64 0) := ⟨fun w => by kernel_rfl, fun w => by kernel_rfl, fun w => by kernel_rfl, rfl⟩
instance : TOne Tryz.prog 37 (.nilFunc) := ⟨fun w => by kernel_rfl, fun w => by kernel_rfl, fun w => by kernel_rfl, rfl⟩
instance : TOne Tryz.prog 39 (.nilFunc) := ⟨fun w => by kernel_rfl, fun w => by kernel_rfl, fun w => by kernel_rfl, rfl⟩
instance : TOne Tryz.prog 40 (.slice none 0 0) := ⟨fun w => by kernel_rfl, fun w => by kernel_rfl, fun w => by kernel_rfl, rfl⟩
instance : TSlice Tryz.prog 40 22 1 24 (.slice none 0 0) := ⟨⟨by kernel_rfl, by kernel_rfl, rfl, by decide⟩⟩
instance : TOne Tryz.prog 42 (.nilFunc) := ⟨fun w => by kernel_rfl, fun w => by kernel_rfl, fun w => by kernel_rfl, rfl⟩
instance : TOne Tryz.prog 43 (.nilFunc) := ⟨fun w => by kernel_rfl, fun w => by kernel_rfl, fun w => by kernel_rfl, rfl⟩
instance : TOne Tryz.prog 44 (.nilFunc) := ⟨fun w => by kernel_rfl, fun w => by kernel_rfl, fun w => by kernel_rfl, rfl⟩
instance : TOne Tryz.prog 45 (.nilFunc) := ⟨fun w => by kernel_rfl, fun w => by kernel_rfl, fun w => by kernel_rfl, rfl⟩
instance : TOne Tryz.prog 46 (.nilFunc) := ⟨fun w => by kernel_rfl, fun w => by kernel_rfl, fun w => by kernel_rfl, rfl⟩
instance : TOne Tryz.prog 47 (.nilFunc) := ⟨fun w => by kernel_rfl, fun w => by kernel_rfl, fun w => by kernel_rfl, rfl⟩
instance : TOne Tryz.prog 48 (.nilFunc) := ⟨fun w => by kernel_rfl, fun w => by kernel_rfl, fun w => by kernel_rfl, rfl⟩
instance : TOne Tryz.prog 49 (.nilFunc) := ⟨fun w => by kernel_rfl, fun w => by kernel_rfl, fun w => by kernel_rfl, rfl⟩
instance : TOne Tryz.prog 51 (.nilFunc) := ⟨fun w => by kernel_rfl, fun w => by kernel_rfl, fun w => by kernel_rfl, rfl⟩
instance : TOne Tryz.prog 52 (.nilFunc) := ⟨fun w => by kernel_rfl, fun w => by kernel_rfl, fun w => by kernel_rfl, rfl⟩
instance : TOne Tryz.prog 53 (.nilFunc) := ⟨fun w => by kernel_rfl, fun w => by kernel_rfl, fun w => by kernel_rfl, rfl⟩
instance : TOne Tryz.prog 54 (.nilFunc) := ⟨fun w => by kernel_rfl, fun w => by kernel_rfl, fun w => by kernel_rfl, rfl⟩
instance : TOne Tryz.prog 55 (.nilFunc) := ⟨fun w => by kernel_rfl, fun w => by kernel_rfl, fun w => by kernel_rfl, rfl⟩
instance : TOne Tryz.prog 57 (.nilFunc) := ⟨fun w => by kernel_rfl, fun w => by kernel_rfl, fun w => by kernel_rfl, rfl⟩
instance : TOne Tryz.prog 58 (.nilFunc) := ⟨fun w => by kernel_rfl, fun w => by kernel_rfl, fun w => by kernel_rfl, rfl⟩
instance : TOne Tryz.prog 59 (.nilFunc) := ⟨fun w => by kernel_rfl, fun w => by kernel_rfl, fun w => by kernel_rfl, rfl⟩
instance : TOne Tryz.prog 60 (.nilFunc) := ⟨fun w => by kernel_rfl, fun w => by kernel_rfl, fun w => by kernel_rfl, rfl⟩
instance : TOne Tryz.prog 61 (.map none) := ⟨fun w => by kernel_rfl, fun w => by kernel_rfl, fun w => by kernel_rfl, rfl⟩
instance : TOne Tryz.prog 62 (.map none) := ⟨fun w => by kernel_rfl, fun w => by kernel_rfl, fun w => by kernel_rfl, rfl⟩
instance : TOne Tryz.prog 63 (.nilFunc) := ⟨fun w => by kernel_rfl, fun w => by kernel_rfl, fun w => by kernel_rfl, rfl⟩
instance : TOne Tryz.prog 64 (.nilFunc) := ⟨fun w => by kernel_rfl, fun w => by kernel_rfl, fun w => by kernel_rfl, rfl⟩
instance : TOne Tryz.prog 65 (.nilFunc) := ⟨fun w => by kernel_rfl, fun w => by kernel_rfl, fun w => by kernel_rfl, rfl⟩
instance : TOne Tryz.prog 66 (.nilFunc) := ⟨fun w => by kernel_rfl, fun w => by kernel_rfl, fun w => by kernel_rfl, rfl⟩
instance : TOne Tryz.prog 67 (.nilFunc) := ⟨fun w => by kernel_rfl, fun w => by kernel_rfl, fun w => by kernel_rfl, rfl⟩
instance : TOne Tryz.prog 68 (.nilFunc) := ⟨fun w => by kernel_rfl, fun w => by kernel_rfl, fun w => by kernel_rfl, rfl⟩
instance : TOne Tryz.prog 69 (.nilFunc) := ⟨fun w => by kernel_rfl, fun w => by kernel_rfl, fun w => by kernel_rfl, rfl⟩
instance : TOne Tryz.prog 70 (.nilFunc) := ⟨fun w => by kernel_rfl, fun w => by kernel_rfl, fun w => by kernel_rfl, rfl⟩
instance : TOne Tryz.prog 71 (.nilFunc) := ⟨fun w => by kernel_rfl, fun w => by kernel_rfl, fun w => by kernel_rfl, rfl⟩
instance : TOne Tryz.prog 72 (.nilFunc) := ⟨fun w => by kernel_rfl, fun w => by kernel_rfl, fun w => by kernel_rfl, rfl⟩
instance : TOne Tryz.prog 73 (.nilFunc) := ⟨fun w => by kernel_rfl, fun w => by kernel_rfl, fun w => by kernel_rfl, rfl⟩
instance : TOne Tryz.prog 74 (.nilFunc) := ⟨fun w => by kernel_rfl, fun w => by kernel_rfl, fun w => by kernel_rfl, rfl⟩
instance : TOne Tryz.prog 75 (.nilFunc) := ⟨fun w => by kernel_rfl, fun w => by kernel_rfl, fun w => by kernel_rfl, rfl⟩
instance : TOne Tryz.prog 76 (.nilFunc) := ⟨fun w => by kernel_rfl, fun w => by kernel_rfl, fun w => by kernel_rfl, rfl⟩
instance : TOne Tryz.prog 77 (.nilFunc) := ⟨fun w => by kernel_rfl, fun w => by kernel_rfl, fun w => by kernel_rfl, rfl⟩
instance : TOne Tryz.prog 78 (.int .u64 0) := ⟨fun w => by kernel_rfl, fun w => by kernel_rfl, fun w => by kernel_rfl, rfl⟩
instance : TOne Tryz.prog 79 (.nilFunc) := ⟨fun w => by kernel_rfl, fun w => by kernel_rfl, fun w => by kernel_rfl, rfl⟩
instance : TOne Tryz.prog 80 (.nilFunc) := ⟨fun w => by kernel_rfl, fun w => by kernel_rfl, fun w => by kernel_rfl, rfl⟩
instance : TOne Tryz.prog 81 (.nilFunc) := ⟨fun w => by kernel_rfl, fun w => by kernel_rfl, fun w => by kernel_rfl, rfl⟩
instance : TOne Tryz.prog 82 (.nilFunc) := ⟨fun w => by kernel_rfl, fun w => by kernel_rfl, fun w => by kernel_rfl, rfl⟩
instance : TOne Tryz.prog 83 (.nilFunc) := ⟨fun w => by kernel_rfl, fun w => by kernel_rfl, fun w => by kernel_rfl, rfl⟩
instance : TOne Tryz.prog 84 (.nilFunc) := ⟨fun w => by kernel_rfl, fun w => by kernel_rfl, fun w => by kernel_rfl, rfl⟩
instance : TOne Tryz.prog 86 (.nilFunc) := ⟨fun w => by kernel_rfl, fun w => by kernel_rfl, fun w => by kernel_rfl, rfl⟩
instance : TOne Tryz.prog 87 (.nilFunc) := ⟨fun w => by kernel_rfl, fun w => by kernel_rfl, fun w => by kernel_rfl, rfl⟩
instance : TOne Tryz.prog 88 (.nilFunc) := ⟨fun w => by kernel_rfl, fun w => by kernel_rfl, fun w => by kernel_rfl, rfl⟩
instance : TOne Tryz.prog 89 (.nilFunc) := ⟨fun w => by kernel_rfl, fun w => by kernel_rfl, fun w => by kernel_rfl, rfl⟩
instance : TOne Tryz.prog 90 (.nilFunc) := ⟨fun w => by kernel_rfl, fun w => by kernel_rfl, fun w => by kernel_rfl, rfl⟩
instance : TOne Tryz.prog 91 (.nilFunc) := ⟨fun w => by kernel_rfl, fun w => by kernel_rfl, fun w => by kernel_rfl, rfl⟩
instance : TOne Tryz.prog 92 (.slice none 0 0) := ⟨fun w => by kernel_rfl, fun w => by kernel_rfl, fun w => by kernel_rfl, rfl⟩
instance : TSlice Tryz.prog 92 4 1 1 (.bool false) := ⟨⟨by kernel_rfl, by kernel_rfl, rfl, by decide⟩⟩
instance : TOne Tryz.prog 93 (.nilFunc) := ⟨fun w => by kernel_rfl, fun w => by kernel_rfl, fun w => by kernel_rfl, rfl⟩
instance : TOne Tryz.prog 94 (.nilFunc) := ⟨fun w => by kernel_rfl, fun w => by kernel_rfl, fun w => by kernel_rfl, rfl⟩
instance : TOne Tryz.prog 95 (.nilFunc) := ⟨fun w => by kernel_rfl, fun w => by kernel_rfl, fun w => by kernel_rfl, rfl⟩
instance : TOne Tryz.prog 96 (.int .i64 0) := ⟨fun w => by kernel_rfl, fun w => by kernel_rfl, fun w => by kernel_rfl, rfl⟩
instance : TOne Tryz.prog 98 (.nilFunc) := ⟨fun w => by kernel_rfl, fun w => by kernel_rfl, fun w => by kernel_rfl, rfl⟩
instance : TOne Tryz.prog 99 (.nilFunc) := ⟨fun w => by kernel_rfl, fun w => by kernel_rfl, fun w => by kernel_rfl, rfl⟩
instance : TOne Tryz.prog 100 (.nilFunc) := ⟨fun w => by kernel_rfl, fun w => by kernel_rfl, fun w => by kernel_rfl, rfl⟩
instance : TOne Tryz.prog 101 (.nilFunc) := ⟨fun w => by kernel_rfl, fun w => by kernel_rfl, fun w => by kernel_rfl, rfl⟩
instance : TOne Tryz.prog 103 (.nilFunc) := ⟨fun w => by kernel_rfl, fun w => by kernel_rfl, fun w => by kernel_rfl, rfl⟩
instance : TOne Tryz.prog 104 (.nilFunc) := ⟨fun w => by kernel_rfl, fun w => by kernel_rfl, fun w => by kernel_rfl, rfl⟩
instance : TOne Tryz.prog 105 (.int .u32 0) := ⟨fun w => by kernel_rfl, fun w => by kernel_rfl, fun w => by kernel_rfl, rfl⟩
instance : TOne Tryz.prog 106 (.nilFunc) := ⟨fun w => by kernel_rfl, fun w => by kernel_rfl, fun w => by kernel_rfl, rfl⟩
instance : TOne Tryz.prog 107 (.int .u64 0) := ⟨fun w => by kernel_rfl, fun w => by kernel_rfl, fun w => by kernel_rfl, rfl⟩
instance : TOne Tryz.prog 109 (.nilFunc) := ⟨fun w => by kernel_rfl, fun w => by kernel_rfl, fun w => by kernel_rfl, rfl⟩
instance : TOne Tryz.prog 110 (.nilFunc) := ⟨fun w => by kernel_rfl, fun w => by kernel_rfl, fun w => by kernel_rfl, rfl⟩
instance : TOne Tryz.prog 111 (.nilFunc) := ⟨fun w => by kernel_rfl, fun w => by kernel_rfl, fun w => by kernel_rfl, rfl⟩
instance : TOne Tryz.prog 112 (.nilFunc) := ⟨fun w => by kernel_rfl, fun w => by kernel_rfl, fun w => by kernel_rfl, rfl⟩
instance : TOne Tryz.prog 113 (.nilFunc) := ⟨fun w => by kernel_rfl, fun w => by kernel_rfl, fun w => by kernel_rfl, rfl⟩
instance : TOne Tryz.prog 114 (.nilFunc) := ⟨fun w => by kernel_rfl, fun w => by kernel_rfl, fun w => by kernel_rfl, rfl⟩
instance : TOne Tryz.prog 115 (.nilFunc) := ⟨fun w => by kernel_rfl, fun w => by kernel_rfl, fun w => by kernel_rfl, rfl⟩
instance : TOne Tryz.prog 116 (.nilFunc) := ⟨fun w => by kernel_rfl, fun w => by kernel_rfl, fun w => by kernel_rfl, rfl⟩
instance : TOne Tryz.prog 118 (.nilFunc) := ⟨fun w => by kernel_rfl, fun w => by kernel_rfl, fun w => by kernel_rfl, rfl⟩
instance : TOne Tryz.prog 119 (.int .u64 0) := ⟨fun w => by kernel_rfl, fun w => by kernel_rfl, fun w => by kernel_rfl, rfl⟩
instance : TOne Tryz.prog 120 (.nilFunc) := ⟨fun w => by kernel_rfl, fun w => by kernel_rfl, fun w => by kernel_rfl, rfl⟩
instance : TOne Tryz.prog 121 (.nilFunc) := ⟨fun w => by kernel_rfl, fun w => by kernel_rfl, fun w => by kernel_rfl, rfl⟩
instance : TOne Tryz.prog 122 (.nilFunc) := ⟨fun w => by kernel_rfl, fun w => by kernel_rfl, fun w => by kernel_rfl, rfl⟩
instance : TOne Tryz.prog 123 (.pointer none) := ⟨fun w => by kernel_rfl, fun w => by kernel_rfl, fun w => by kernel_rfl, rfl⟩
instance : TOne Tryz.prog 124 (.nilFunc) := ⟨fun w => by kernel_rfl, fun w => by kernel_rfl, fun w => by kernel_rfl, rfl⟩
instance : TOne Tryz.prog 126 (.nilFunc) := ⟨fun w => by kernel_rfl, fun w => by kernel_rfl, fun w => by kernel_rfl, rfl⟩
instance : TOne Tryz.prog 128 (.nilFunc) := ⟨fun w => by kernel_rfl, fun w => by kernel_rfl, fun w => by kernel_rfl, rfl⟩
instance : TOne Tryz.prog 129 (.nilFunc) := ⟨fun w => by kernel_rfl, fun w => by kernel_rfl, fun w => by kernel_rfl, rfl⟩
instance : TOne Tryz.prog 130 (.nilFunc) := ⟨fun w => by kernel_rfl, fun w => by kernel_rfl, fun w => by kernel_rfl, rfl⟩
instance : TOne Tryz.prog 131 (.nilFunc) := ⟨fun w => by kernel_rfl, fun w => by kernel_rfl, fun w => by kernel_rfl, rfl⟩
instance : TOne Tryz.prog 132 (.pointer none) := ⟨fun w => by kernel_rfl, fun w => by kernel_rfl, fun w => by kernel_rfl, rfl⟩
instance : TOne Tryz.prog 133 (.nilFunc) := ⟨fun w => by kernel_rfl, fun w => by kernel_rfl, fun w => by kernel_rfl, rfl⟩
instance : TOne Tryz.prog 134 (.nilFunc) := ⟨fun w => by kernel_rfl, fun w => by kernel_rfl, fun w => by kernel_rfl, rfl⟩
instance : TOne Tryz.prog 135 (.nilFunc) := ⟨fun w => by kernel_rfl, fun w => by kernel_rfl, fun w => by kernel_rfl, rfl⟩
instance : TOne Tryz.prog 136 (.nilFunc) := ⟨fun w => by kernel_rfl, fun w => by kernel_rfl, fun w => by kernel_rfl, rfl⟩
instance : TOne Tryz.prog 137 (.nilFunc) := ⟨fun w => by kernel_rfl, fun w => by kernel_rfl, fun w => by kernel_rfl, rfl⟩
instance : TOne Tryz.prog 138 (.nilFunc) := ⟨fun w => by kernel_rfl, fun w => by kernel_rfl, fun w => by kernel_rfl, rfl⟩
instance : TOne Tryz.prog 139 (.nilFunc) := ⟨fun w => by kernel_rfl, fun w => by kernel_rfl, fun w => by kernel_rfl, rfl⟩
instance : TOne Tryz.prog 140 (.nilFunc) := ⟨fun w => by kernel_rfl, fun w => by kernel_rfl, fun w => by kernel_rfl, rfl⟩
instance : TOne Tryz.prog 146 (.nilFunc) := ⟨fun w => by kernel_rfl, fun w => by kernel_rfl, fun w => by kernel_rfl, rfl⟩
instance : TOne Tryz.prog 150 (.pointer none) := ⟨fun w => by kernel_rfl, fun w => by kernel_rfl, fun w => by kernel_rfl, rfl⟩
end Go.Proofs.YtpknpbeiifjmgaaGreat
namespace Go.Proofs.YtpknpbeiifjmgaaGreat
open Go.RowKit
theorem Sl.bound {w : World} {v : Value} {sz n : Nat} {f : Nat → Value} (h : Sl w v sz n f) : n ≤ 140737488355328 := h.len
theorem bool_eq {a b : Bool} (h : a = b) : Value.bool a = Value.bool b := by rw [h]
theorem getD_lt {α : Type} (xs : List α) (k : Nat) (d : α) (h : k < xs.length) : xs.getD k d = xs[k] := by simp [h]
theorem getD_ge {α : Type} (xs : List α) (k : Nat) (d : α) (h : xs.length ≤ k) : xs.getD k d = d := by simp [List.getD_eq_getElem?_getD, List.getElem?_eq_none h]
theorem Sl.congr {w : World} {v : Value} {sz n : Nat} {f g : Nat → Value} (h : Sl w v sz n f) (e : ∀ j, j < n * sz → f j = g j) : Sl w v sz n g := by
  refine ⟨h.len, ?_, h.room⟩
  obtain ⟨a, cap, hv, hc⟩ := h.out
  refine ⟨a, cap, hv, ?_⟩
  rcases hc with h0 | ⟨b, off, ha, hc⟩
  · exact .inl h0
  · exact .inr ⟨b, off, ha, fun j hj => by rw [hc j hj, e j hj]⟩
theorem Ints.sl {w : World} {v : Value} {xs : List Int} (h : Ints w v xs) : Sl w v 1 xs.length (fun j => .int .i64 (xs.getD j 0)) := h
theorem Bools.sl {w : World} {v : Value} {xs : List Bool} (h : Bools w v xs) : Sl w v 1 xs.length (fun j => .bool (xs.getD j false)) := h
theorem Strs.sl {w : World} {v : Value} {xs : List ByteArray} (h : Strs w v xs) : Sl w v 1 xs.length (fun j => .string (xs.getD j ByteArray.empty)) := h.1
theorem Strs.le {w : World} {v : Value} {xs : List ByteArray} (h : Strs w v xs) (j : Nat) : (xs.getD j ByteArray.empty).size ≤ 140737488355328 := by
  by_cases hj : j < xs.length
  · rw [getD_lt _ _ _ hj]; exact h.2 _ (List.getElem_mem hj)
  · rw [getD_ge _ _ _ (by omega)]; exact Nat.zero_le _
theorem Ints.nil (w : World) : Ints w (.slice none 0 0) [] := ⟨by simp, ⟨_, _, rfl, .inl rfl⟩, fun a m c h => by simp only [Value.slice.injEq] at h;omega⟩
theorem Tabs.rows {w : World} {v : Value} {xs : List (List Int)} (h : Tabs w v xs) : ∃ fv : Nat → Value, Sl w v 1 xs.length fv ∧ ∀ j, Ints w (fv j) (xs.getD j []) := by
  obtain ⟨vs, h1, h2, h3⟩ := h
  refine ⟨fun j => if j < xs.length then vs.getD j undef else .slice none 0 0, h1.congr fun j hj => by rw [if_pos (by omega)], fun j => ?_⟩
  by_cases hj : j < xs.length
  · simp only [if_pos hj]; rw [getD_lt xs j [] hj]; exact h3 j hj
  · simp only [if_neg hj]; rw [getD_ge xs j [] (by omega)]; exact Ints.nil w
set_option maxRecDepth 100000 in
set_option maxHeartbeats 4000000 in
theorem contains_int_sat (v : Value) (xs : List Int) (x : Int) (w : World) (h : Ints w v xs) : SatV Tryz.prog 5 [v, .int .i64 x] w (.bool (hasI xs x)) :=
  Sat.lib ⟨_, _, Tryz.func5, by kernel_rfl, rfl⟩ fun w1 hb => (contains_int v xs x w1 (h.below hb)).mono fun e w' ⟨h1, h2⟩ => ⟨_, [], h1, by rw [← h2]; exact Hp.refl w1, rfl, rfl⟩
set_option maxRecDepth 100000 in
set_option maxHeartbeats 4000000 in
theorem equal_int_sat (v u : Value) (xs ys : List Int) (w : World) (h : Ints w v xs) (k : Ints w u ys) : SatV Tryz.prog 15 [v, u] w (.bool (xs == ys)) :=
  Sat.lib ⟨_, _, Tryz.func15, by kernel_rfl, rfl⟩ fun w1 hb => (equal_int v u xs ys w1 (h.below hb) (k.below hb)).mono fun e w' ⟨h1, h2⟩ => ⟨_, [], h1, h2.hp, rfl, rfl⟩
end Go.Proofs.YtpknpbeiifjmgaaGreat
namespace Go.Proofs.YtpknpbeiifjmgaaGreat
open Go.RowKit Go.Maps
section
variable {P : Program} {n : Nat} {w0 : World} {Q : Exit → Fm → List Res → Prop} {K : Fm → List Res → Prop} {F : Fm} {L : List Res} {m : Md} {Lw : List Res} {ops : Array Oper} {rest : List Oper}
  {d : Option Nat} {ty : TypeId} {pos : String} {aft : Array Edge}
theorem OKx_mkMap {t : TypeId} (k : TypeId) [hE : Keeps w0 L Lw] (kk : ∀ g, OKx P n w0 (.seq Lw) ops K rest (updo F d (.map (some g))) (.obj g (MapIs P k 0 fun _ => .none) :: L)) :
    OKx P n w0 (.seq Lw) ops K (⟨d, .makeMap t none, ty, pos, aft, none⟩ :: rest) F L := by
  refine OKx_act hE.ent fun w hp => ⟨_, w.alloc (.map #[] 0), _, ?_, hp.mapMade P k, kk w.heap.size⟩
  simp [execOp, run_makeMap, Result.andThen]
theorem OKx_look {t k e : TypeId} {x y : Operand} {g c : Nat} {Fk : Lit → Option Value} {key : Value} {kl : Lit} {z v : Value} (i : Nat) (hx : rv n F x = .map (some g)) (hy : rv n F y = key) (hi : L[i]? = some (.obj g (MapIs P k c Fk)))
    (Ky : Keyed P k) (ht : P.underlying t = some (.map k e)) (hz : ∀ w, (zeroValue e).run P w = .ok z w) (hkey : keyOf P k key = some kl) (hl : WideAt.IsKeyLit kl) (hv : (Fk kl).getD z = v)
    (kk : OKx P n w0 m ops K rest (updo F d v) L) : OKx P n w0 m ops K (⟨d, .lookup t x y false, ty, pos, aft, none⟩ :: rest) F L :=
  OKx_still (fun w hp _ _ _ _ => by
    have h := hp.look i hi Ky ht (hz w) hkey hl
    subst hv
    simp [execOp, hx, hy, h, Result.andThen]) kk
theorem OKx_mapSet {t k e : TypeId} {x y u : Operand} {g c : Nat} {Fk : Lit → Option Value} {key val : Value} {kl : Lit} [hE : Keeps w0 L Lw] (i : Nat) (hx : rv n F x = .map (some g)) (hy : rv n F y = key) (hu : rv n F u = val) (hi : L[i]? = some (.obj g (MapIs P k c Fk)))
    (Ky : Keyed P k) (ht : P.underlying t = some (.map k e)) (hn : c < 9223372036854775807) (hkey : keyOf P k key = some kl) (hl : WideAt.IsKeyLit kl)
    (kk : OKx P n w0 (.seq Lw) ops K rest (updo F d undef) (L.set i (.obj g (MapIs P k (c + 1) (putF Fk kl val))))) : OKx P n w0 (.seq Lw) ops K (⟨d, .mapUpdate t x y u, ty, pos, aft, none⟩ :: rest) F L := by
  refine OKx_act0 hE.ent fun w hp => ?_
  obtain ⟨w', hrun, hp'⟩ := hp.store i hi Ky ht hn (val := val) hkey hl
  refine ⟨w', _, ?_, hp', kk⟩
  simp [execOp, hx, hy, hu, hrun, Result.andThen]
end
end Go.Proofs.YtpknpbeiifjmgaaGreat
namespace Go.Proofs.YtpknpbeiifjmgaaGreat
open Go.RowKit
theorem Pt1.below {w w' : World} {p v : Value} (h : Pt1 w p v) (hb : Below w.heap.size w w') : Pt1 w' p v := by
  obtain ⟨b, o, rfl, hc⟩ := h
  exact ⟨b, o, rfl, (hb.cell (World.block_lt_of_cell? w _ hc)).trans hc⟩
theorem below_on {w0 w w' : World} (h : Below w0.heap.size w0 w) (hb : Below w.heap.size w w') : Below w0.heap.size w0 w' := h.trans (hb.mono h.size)
theorem SatL.row {P : Program} {f : FuncId} {args : List Value} {w0 : World} {L : List Res} {R : Value → List Res → Prop} (h : SatL P f args w0 L R) :
    SatL P f args w0 L (fun u L' => R u L' ∧ ∀ e sz v n xs, Res.row e sz v n xs ∈ L' → (∃ a c, v = .slice a n c) ∧ (0 < n → ∃ g c, v = .slice (some ⟨g, 0, none⟩) n c)) :=
  ⟨h.enters, fun w hp => (h.calls w hp).mono fun e w' ⟨v, L', h1, h2, h3⟩ => ⟨v, L', h1, h2, h3, fun e sz v n xs hm => by
    have ho : w'.ownsRow w0.heap.size e sz v n xs := h2.ok _ hm
    rcases ho.2 with ⟨rfl, h0⟩ | ⟨g, cap, cur, rfl, _⟩
    · obtain rfl : n = 0 := by have := ho.1;omega
      exact ⟨⟨_, _, rfl⟩, fun h => absurd h (by omega)⟩
    · exact ⟨⟨_, _, rfl⟩, fun _ => ⟨g, cap, rfl⟩⟩⟩⟩
def anyN (p : Nat → Bool) (N : Nat) : Bool := (List.range N).any p
theorem anyN_hit {p : Nat → Bool} {N k : Nat} (h : k < N) (e : p k = true) : anyN p N = true := List.any_eq_true.2 ⟨k, List.mem_range.2 h, e⟩
theorem anyN_none {p : Nat → Bool} {N : Nat} (h : ∀ j, j < N → p j = false) : anyN p N = false := by
  rw [anyN, List.any_eq_false]
  intro x hx
  rw [h x (List.mem_range.1 hx)]; simp
def IdxR (p : Nat → Bool) (N : Nat) (u : Value) (L : List Res) : Prop := ∃ i : Int, u = .int .i64 i ∧ L = [] ∧ anyN p N = decide (0 ≤ i)
set_option maxRecDepth 100000 in
set_option maxHeartbeats 4000000 in
theorem indexF_int_sat (v : Value) (N : Nat) (e : Nat → Value) (p : Nat → Bool) (g : FuncId) (cs : Array Value) (w : World) (h : Sl w v 1 N e) (hf : ∀ k, k < N → ∀ w1, Below w.heap.size w w1 → SatV Tryz.prog g (e k :: cs.toList) w1 (.bool (p k))) :
    Sat Tryz.prog 49 [v, .func (.func g) #[] cs] w (IdxR p N) := by
  have hN := h.bound
  refine SatL.of 19 [4] Tryz.func49 (by kernel_rfl) (by kernel_rfl) rfl rfl rfl rfl ?_
  repeat' (first|(apply OK_seq)|(apply thenQ_n)|(apply OK_region)|(apply OKx_nilK)|(apply OK_block)|(apply blockQ_n)|(apply blockQ_s)|(apply thenQ_e)|(apply blockQ_e;exact rfl)|(apply thenQ_r)|(apply blockQ_r)|(apply OK_condT;exact rfl)|(apply OK_condF;exact rfl)|(apply OK_skip)|(apply OK_exit)|(apply OK_ret)|(apply OKx_move;(conv=>lhs;whnf)<;>exact rfl)|(apply OKx_assign;(conv=>lhs;whnf)<;>exact rfl)|(apply OKx_ldB;exact rfl;(first | exact at0|exact at1|exact at2|exact at3|exact at4|exact at5|exact at6|exact at7);exact rfl)|(apply OKx_ldR;(conv=>lhs;whnf)<;>exact rfl;(with_reducible assumption))|(apply OKx_ldI;exact rfl;(first | exact at0|exact at1|exact at2|exact at3|exact at4|exact at5|exact at6|exact at7);omega)|(apply OKx_len;exact rfl)|(apply OKx_lenR;(conv=>lhs;whnf)<;>exact rfl;(with_reducible assumption))|(apply OKx_lenR2;(conv=>lhs;whnf)<;>exact rfl;(with_reducible assumption))|(apply OKx_lenO;(conv=>lhs;whnf)<;>exact rfl;(first | exact at0|exact at1|exact at2|exact at3|exact at4|exact at5|exact at6|exact at7))|(apply OKx_lss;exact rfl;exact rfl;all_goals (intro _; try (exfalso;omega)))|(apply OKx_idxO;exact rfl;exact rfl;omega)|(apply OKx_idxR;(conv=>lhs;whnf)<;>exact rfl;(with_reducible assumption);exact rfl;omega;intro _ _)|(apply OKx_idxOz;exact rfl;exact rfl;omega;omega)|(apply OKx_idxRz;(conv=>lhs;whnf)<;>exact rfl;(with_reducible assumption);exact rfl;omega;omega;intro _ _)|(apply OKx_inc;exact rfl;exact rfl;omega)|(apply OKx_addN;exact rfl;exact rfl;omega)|(apply OKx_add;exact rfl;exact rfl;omega;omega))
  refine OK_loop1 8 [4, 5, 8, 9, 10, 11, 12, 13, 14, 15, 16, 17, 18] (fun m v L => ∃ k : Nat, k + m = N ∧ v = .int .i64 (k : Int) ∧ (∀ j, j < k → p j = false) ∧ L = []) N [] (Ent.refl _ _) ⟨0, by omega, rfl, fun j hj => absurd hj (by omega), rfl⟩ ?_
  rintro m v' L G ⟨k, hm, rfl, H, rfl⟩
  repeat' (first|(apply OK_seq)|(apply thenQ_n)|(apply OK_region)|(refine OKx_callB (f := g) rfl rfl rfl (fun w hp => hf k (by omega) w hp.below) ?_ ?_ <;> intro hq)|(apply OKx_nilK)|(apply OK_block)|(apply blockQ_n)|(apply blockQ_s)|(apply thenQ_e)|(apply blockQ_e;exact rfl)|(apply thenQ_r)|(apply blockQ_r)|(apply OK_condT;exact rfl)|(apply OK_condF;exact rfl)|(apply OK_skip)|(apply OK_exit)|(apply OK_ret)|(apply OKx_move;(conv=>lhs;whnf)<;>exact rfl)|(apply OKx_assign;(conv=>lhs;whnf)<;>exact rfl)|(apply OKx_ldB;exact rfl;(first | exact at0|exact at1|exact at2|exact at3|exact at4|exact at5|exact at6|exact at7);exact rfl)|(apply OKx_ldR;(conv=>lhs;whnf)<;>exact rfl;(with_reducible assumption))|(apply OKx_ldI;exact rfl;(first | exact at0|exact at1|exact at2|exact at3|exact at4|exact at5|exact at6|exact at7);omega)|(apply OKx_len;exact rfl)|(apply OKx_lenR;(conv=>lhs;whnf)<;>exact rfl;(with_reducible assumption))|(apply OKx_lenR2;(conv=>lhs;whnf)<;>exact rfl;(with_reducible assumption))|(apply OKx_lenO;(conv=>lhs;whnf)<;>exact rfl;(first | exact at0|exact at1|exact at2|exact at3|exact at4|exact at5|exact at6|exact at7))|(apply OKx_lss;exact rfl;exact rfl;all_goals (intro _; try (exfalso;omega)))|(apply OKx_idxO;exact rfl;exact rfl;omega)|(apply OKx_idxR;(conv=>lhs;whnf)<;>exact rfl;(with_reducible assumption);exact rfl;omega;intro _ _)|(apply OKx_idxOz;exact rfl;exact rfl;omega;omega)|(apply OKx_idxRz;(conv=>lhs;whnf)<;>exact rfl;(with_reducible assumption);exact rfl;omega;omega;intro _ _)|(apply OKx_inc;exact rfl;exact rfl;omega)|(apply OKx_addN;exact rfl;exact rfl;omega)|(apply OKx_add;exact rfl;exact rfl;omega;omega))
  · refine bodyQ_r1 (by ((conv=>lhs;whnf)<;>exact rfl)) ?_
    exact ⟨_, Ent.refl _ _, _, rfl, rfl, by rw [anyN_hit (by omega) hq, decide_eq_true (by omega)]⟩
  · refine ⟨by (repeat' (first | refine agree_upd rfl ?_ | exact agree_over | exact agree_refl _ _ | refine agree_over2 rfl ?_)), m - 1, _, by omega, Ent.refl _ _, ?_⟩
    refine ⟨k + 1, by omega, rfl, fun j hj => ?_, rfl⟩
    by_cases hjk : j < k
    · exact H j hjk
    · obtain rfl : j = k := by omega
      exact hq
  · refine bodyQ_r1 (by ((conv=>lhs;whnf)<;>exact rfl)) ?_
    exact ⟨_, Ent.refl _ _, _, rfl, rfl, by rw [anyN_none fun j hj => H j (by omega)]; rfl⟩
set_option maxRecDepth 100000 in
set_option maxHeartbeats 4000000 in
theorem containsF_int_sat (v : Value) (N : Nat) (e : Nat → Value) (p : Nat → Bool) (g : FuncId) (cs : Array Value) (w : World) (h : Sl w v 1 N e) (hf : ∀ k, k < N → ∀ w1, Below w.heap.size w w1 → SatV Tryz.prog g (e k :: cs.toList) w1 (.bool (p k))) :
    SatV Tryz.prog 28 [v, .func (.func g) #[] cs] w (.bool (anyN p N)) := by
  refine SatL.of 9 [4] Tryz.func28 (by kernel_rfl) (by kernel_rfl) rfl rfl rfl rfl ?_
  repeat' (first|(apply OK_seq)|(apply thenQ_n)|(apply OK_region)|(apply OKx_gc 49;exact rfl; refine OKx_call (f := 49) rfl rfl (fun w hp => indexF_int_sat v N e p g cs w (h.below hp.below) (fun k hk w1 hb => hf k hk w1 (below_on hp.below hb))) ?_; rintro _ _ ⟨i, rfl, rfl, hi⟩)|(apply OKx_nilK)|(apply OK_block)|(apply blockQ_n)|(apply blockQ_s)|(apply thenQ_e)|(apply blockQ_e;exact rfl)|(apply thenQ_r)|(apply blockQ_r)|(apply OK_condT;exact rfl)|(apply OK_condF;exact rfl)|(apply OK_skip)|(apply OK_exit)|(apply OK_ret)|(apply OKx_move;(conv=>lhs;whnf)<;>exact rfl)|(apply OKx_assign;(conv=>lhs;whnf)<;>exact rfl)|(apply OKx_geq;exact rfl;exact rfl;all_goals (intro _; try (exfalso;omega))))
  all_goals
    refine bodyQ_r1 (by ((conv=>lhs;whnf)<;>exact rfl)) ?_
    exact ⟨_, Ent.refl _ _, bool_eq (by rw [hi]; simp;omega), rfl⟩
end Go.Proofs.YtpknpbeiifjmgaaGreat
namespace Go.Proofs.YtpknpbeiifjmgaaGreat
def srtK (xs : List Int) (k : Nat) : List Int := ((List.range k).filter (fun n : Nat => hasI xs (n : Int))).map (fun n : Nat => (n : Int))
theorem srtK_asc (xs : List Int) (k : Nat) : (srtK xs k).Pairwise (· < ·) := by
  unfold srtK
  rw [List.pairwise_map]
  refine List.Pairwise.filter _ ?_
  exact List.pairwise_lt_range.imp (fun h => by omega)
theorem srtK_mem (xs : List Int) (k : Nat) (x : Int) : x ∈ srtK xs k ↔ x ∈ xs ∧ 0 ≤ x ∧ x < k := by
  unfold srtK
  simp only [List.mem_map, List.mem_filter, List.mem_range, hasI, List.contains_iff_mem]
  constructor
  · rintro ⟨n, ⟨h1, h2⟩, rfl⟩
    exact ⟨h2, by omega, by omega⟩
  · rintro ⟨h1, h2, h3⟩
    exact ⟨x.toNat, ⟨by omega, by rwa [Int.toNat_of_nonneg h2]⟩, Int.toNat_of_nonneg h2⟩
theorem asc_ext : ∀ (xs ys : List Int), xs.Pairwise (· < ·) → ys.Pairwise (· < ·) → (∀ x, x ∈ xs ↔ x ∈ ys) → xs = ys := by
  intro xs
  induction xs with
  | nil =>
    intro ys _ _ h
    cases ys with
    | nil => rfl
    | cons y ys => exact absurd ((h y).2 (by simp)) (by simp)
  | cons x xs ih =>
    intro ys hx hy h
    cases ys with
    | nil => exact absurd ((h x).1 (by simp)) (by simp)
    | cons y ys =>
      have hx' := List.pairwise_cons.1 hx
      have hy' := List.pairwise_cons.1 hy
      have hxy : x = y := by
        rcases List.mem_cons.1 ((h x).1 (by simp)) with e | e
        · exact e
        · rcases List.mem_cons.1 ((h y).2 (by simp)) with e2 | e2
          · exact e2.symm
          · have := hy'.1 x e
            have := hx'.1 y e2
            omega
      subst hxy
      congr 1
      refine ih ys hx'.2 hy'.2 fun z => ⟨fun hz => ?_, fun hz => ?_⟩
      · rcases List.mem_cons.1 ((h z).1 (by simp [hz])) with e | e
        · have := hx'.1 z hz;omega
        · exact e
      · rcases List.mem_cons.1 ((h z).2 (by simp [hz])) with e | e
        · have := hy'.1 z hz;omega
        · exact e
theorem asc_of_le (xs : List Int) (h : xs.Pairwise (· ≤ ·)) (hn : xs.Nodup) : xs.Pairwise (· < ·) :=
  (h.and hn).imp (fun ⟨a, b⟩ => by omega)
end Go.Proofs.YtpknpbeiifjmgaaGreat
namespace Go.Proofs.YtpknpbeiifjmgaaGreat
open Go.RowKit
theorem Ent.perm {w0 : World} {L L' : List Res} (p : L.Perm L') : Ent w0 L L' := Ent.mk fun _ h => h.perm p.symm
section
variable {P : Program} {n : Nat} {w0 : World} {F : Fm} {L : List Res}
def resIs (P : Program) (n : Nat) (F : Fm) (L : List Res) : ResultVar → Value → Prop
  | .tmp t, v => rv n F (.tmp t) = v
  | .cell t tt, v => ∃ (g i e : Nat) (cs : List Value), rv n F (.tmp t) = .pointer (some ⟨g, 0, none⟩) ∧ L[i]? = some (.box e g cs) ∧ ∀ w : World, (∀ j, w.cell? ⟨g, j, none⟩ = cs[j]?) → (loadVar tt ⟨g, 0, none⟩).run P w = .ok v w
theorem resIs_tmp {t : Nat} {v : Value} (h : rv n F (.tmp t) = v) : resIs P n F L (.tmp t) v := h
theorem resIs_cellA {t tt sz g : Nat} {zs : List Value} [T : TAgg P tt sz zs] (i : Nat) {e : TypeId} {cs : List Value} (h1 : rv n F (.tmp t) = .pointer (some ⟨g, 0, none⟩)) (h2 : L[i]? = some (.box e g cs)) (h3 : cs.length = sz) : resIs P n F L (.cell t tt) (.agg cs.toArray) := by
  refine ⟨g, i, e, cs, h1, h2, fun w hc => ?_⟩
  subst h3
  have := run_cells (P := P) (a := ⟨g, 0, none⟩) (w := w) cs 0 #[] (fun j hj => by rw [Nat.zero_add, add_at, Nat.zero_add]; exact hc j)
  simp [loadVar, Sem.run_bind, T.agg, T.size, Result.andThen, loadCells, this]
def allRes (P : Program) (n : Nat) (F : Fm) (L : List Res) : List ResultVar → List Value → Prop
  | [], [] => True
  | r :: rs, v :: vs => resIs P n F L r v ∧ allRes P n F L rs vs
  | _, _ => False
def packV : List Value → Value
  | [v] => v
  | vs => .tuple vs.toArray
def bodyR (P : Program) (n : Nat) (w0 : World) (rs : List ResultVar) (R : Value → List Res → Prop) : Exit → Fm → List Res → Prop
  | .normal, F, L => marksV (F none) = [] ∧ ∃ vs L', allRes P n F L rs vs ∧ Ent w0 L L' ∧ R (packV vs) L'
  | .ret, F, L => marksV (F none) = [] ∧ ∃ vs L', allRes P n F L rs vs ∧ Ent w0 L L' ∧ R (packV vs) L'
  | _, _, _ => False
theorem mapM_run {w : World} {f : ResultVar → Sem Value} (hf : ∀ r v, resIs P n F L r v → (f r).run P w = .ok v w) : ∀ (rs : List ResultVar) (vs : List Value), allRes P n F L rs vs → (rs.mapM f).run P w = .ok vs w
  | [], [], _ => by simp
  | r :: rs, v :: vs, h => by
    have ih := mapM_run hf rs vs h.2
    rw [List.mapM_cons]
    simp only [Sem.run_bind, Sem.run_pure, Result.andThen, hf r v h.1, ih]
  | [], _ :: _, h => h.elim
  | _ :: _, [], h => h.elim
theorem SatL.ofR {f : FuncId} {fn : Func} {c : Code} {args : List Value} {R : Value → List Res → Prop} (N : Nat) (rs : List ResultVar) (hf : P.funcs[f]? = some fn) (hN : fn.ntmps = N) (hnm : (fn.name == "runtime.NumGoroutine") = false) (hb : fn.body = some c)
    (hres : fn.results = rs.toArray) (hlen : Nat.ble args.length N = true) (h : OK P N w0 (bodyR P N w0 rs R) c (argF args) L) : SatL P f args w0 L R := by
  refine ⟨⟨fn, c, hf, hnm, hb⟩, fun w hp => ?_⟩
  refine calls_of_wp hf hb ?_
  subst hN
  have hlen' : args.length ≤ fn.ntmps := by rwa [Nat.ble_eq] at hlen
  have hfr : Fr fn.ntmps { tmps := args.toArray ++ Array.replicate (fn.ntmps - args.toArray.size) undef, defers := [] } (argF args) := by
    refine ⟨rfl, by simp;omega, fun t ht => ?_⟩
    simp only [Array.getD_eq_getD_getElem?, argF, List.getD_eq_getElem?_getD]
    by_cases h : t < args.length
    · rw [Array.getElem?_append_left (by simpa using h)]
      simp
    · rw [Array.getElem?_append_right (by simpa using Nat.le_of_not_lt h), List.getElem?_eq_none (by omega)]
      simp only [List.size_toArray, Array.getElem?_replicate]
      split <;> rfl
  have key : ∀ (a' : Act) (w' : World) (F' : Fm) (L' : List Res) (vs : List Value), Fr fn.ntmps a' F' → Hp w0.heap.size w0 w' L' → allRes P fn.ntmps F' L' rs vs → (results fn a'.tmps).run P w' = .ok (packV vs) w' := by
    intro a' w' F' L' vs h1 h2 h3
    unfold results
    rw [hres, List.mapM_toArray]
    simp only [Sem.run_bind, Sem.run_map]
    rw [mapM_run (n := fn.ntmps) (F := F') (L := L') ?_ rs vs h3]
    · rcases vs with _ | ⟨v, _ | ⟨v2, vs⟩⟩ <;> simp [packV, Result.andThen]
    · intro r v h
      cases r with
      | tmp t =>
        have he : a'.tmps.getD t undef = v := (congrFun h1.eval (.tmp t)).trans h
        simp only [Sem.run_pure, he]
      | cell t tt =>
        obtain ⟨g, i, e, cs, h2', h3', h4⟩ := h
        have he : a'.tmps.getD t undef = .pointer (some ⟨g, 0, none⟩) := (congrFun h1.eval (.tmp t)).trans h2'
        have h5 := h4 w' (h2.boxAt i h3').1
        simp only [Sem.run_bind, Sem.run_pure, Result.andThen, he, asAddr, h5]
  refine wp_mono (h.use w _ hfr hp) ?_
  rintro e a' w' ⟨F', L', h1, h2, h3⟩
  cases e with
  | normal =>
    obtain ⟨hm, vs, L'', hr, hent, hR⟩ := h3
    exact ⟨h1.defers.trans hm, _, key _ _ _ _ _ h1 h2 hr, _, L'', rfl, hent.use _ h2, hR⟩
  | ret =>
    obtain ⟨hm, vs, L'', hr, hent, hR⟩ := h3
    exact ⟨h1.defers.trans hm, _, key _ _ _ _ _ h1 h2 hr, _, L'', rfl, hent.use _ h2, hR⟩
  | _ => exact h3.elim
theorem bodyR_r1 {r1 : ResultVar} {v1 : Value} {R : Value → List Res → Prop} (h1 : resIs P n F L r1 v1) (h : ∃ L', Ent w0 L L' ∧ R v1 L') (hm : marksV (F none) = [] := by exact rfl) : bodyR P n w0 [r1] R .ret F L :=
  let ⟨L', a, b⟩ := h
  ⟨hm, [v1], L', ⟨h1, trivial⟩, a, b⟩
theorem bodyR_r2 {r1 r2 : ResultVar} {v1 v2 : Value} {R : Value → List Res → Prop} (h1 : resIs P n F L r1 v1) (h2 : resIs P n F L r2 v2) (h : ∃ L', Ent w0 L L' ∧ R (.tuple #[v1, v2]) L') (hm : marksV (F none) = [] := by exact rfl) : bodyR P n w0 [r1, r2] R .ret F L :=
  let ⟨L', a, b⟩ := h
  ⟨hm, [v1, v2], L', ⟨h1, h2, trivial⟩, a, b⟩
theorem bodyR_r3 {r1 r2 r3 : ResultVar} {v1 v2 v3 : Value} {R : Value → List Res → Prop} (h1 : resIs P n F L r1 v1) (h2 : resIs P n F L r2 v2) (h3 : resIs P n F L r3 v3) (h : ∃ L', Ent w0 L L' ∧ R (.tuple #[v1, v2, v3]) L') (hm : marksV (F none) = [] := by exact rfl) : bodyR P n w0 [r1, r2, r3] R .ret F L :=
  let ⟨L', a, b⟩ := h
  ⟨hm, [v1, v2, v3], L', ⟨h1, h2, h3, trivial⟩, a, b⟩
theorem bodyR_r4 {r1 r2 r3 r4 : ResultVar} {v1 v2 v3 v4 : Value} {R : Value → List Res → Prop} (h1 : resIs P n F L r1 v1) (h2 : resIs P n F L r2 v2) (h3 : resIs P n F L r3 v3) (h4 : resIs P n F L r4 v4) (h : ∃ L', Ent w0 L L' ∧ R (.tuple #[v1, v2, v3, v4]) L') (hm : marksV (F none) = [] := by exact rfl) : bodyR P n w0 [r1, r2, r3, r4] R .ret F L :=
  let ⟨L', a, b⟩ := h
  ⟨hm, [v1, v2, v3, v4], L', ⟨h1, h2, h3, h4, trivial⟩, a, b⟩
end
attribute [irreducible] bodyR
def srtL (xs : List Int) : List Int := xs.mergeSort fun x y => decide (x ≤ y)
set_option maxRecDepth 100000 in
set_option maxHeartbeats 4000000 in
theorem sort_int_sat (g cap n : Nat) (xs : List Int) (w0 : World) (L : List Res) (i : Nat) (hxn : xs.length = n) (hi : L[i]? = some (.row 3 1 (.slice (some ⟨g, 0, none⟩) n cap) n (ints xs))) (hx : n ≤ 1000000) :
    SatL Tryz.prog 22 [.slice (some ⟨g, 0, none⟩) n cap] w0 L (fun u L' => u = .tuple #[] ∧ L' = L.set i (.row 3 1 (.slice (some ⟨g, 0, none⟩) n cap) n (ints (srtL xs)))) := by
  subst hxn
  refine ⟨⟨_, _, Tryz.func22, by kernel_rfl, rfl⟩, fun w hp => ?_⟩
  have ho : w.ownsRow w0.heap.size 3 1 (.slice (some ⟨g, 0, none⟩) xs.length cap) xs.length (ints xs) := hp.ok _ (List.mem_of_getElem? hi)
  have hlt := (ho.lt g rfl).2
  rcases ho.2 with ⟨h0, _⟩ | ⟨g', cap', cur, hv, hg, hb, hn, hcap, hsz, htake⟩
  · cases h0
  cases hv
  rw [Nat.mul_one] at htake
  have hsl : (srtL xs).length = xs.length := List.length_mergeSort _
  refine (Tryz.slices_Sort_int g 0 cap xs w (Go.holds_of_blockI hb htake) hlt (by omega)).mono ?_
  rintro e w' ⟨rfl, n, os, rfl⟩
  refine ⟨_, _, rfl, hp.turn hi (r' := .row 3 1 (.slice (some ⟨g, 0, none⟩) xs.length cap) xs.length (ints (srtL xs))) (Go.grownBy_sortedI _) ?_ (fun k hk => .inl hk), rfl, rfl⟩
  exact Go.ownsRow_sortedI (w := w) (n := n) (os := os) (ts := srtL xs) hsl hg hb hn hcap hsz
theorem srtL_mem (xs : List Int) (x : Int) : x ∈ srtL xs ↔ x ∈ xs := (List.mergeSort_perm xs _).mem_iff
theorem srtL_perm (xs : List Int) : (srtL xs).Perm xs := List.mergeSort_perm xs _
theorem srtL_le (xs : List Int) : (srtL xs).Pairwise (· ≤ ·) := by
  have := List.pairwise_mergeSort (le := fun x y : Int => decide (x ≤ y)) (by simp;omega) (by simp;omega) xs
  simpa [srtL] using this
end Go.Proofs.YtpknpbeiifjmgaaGreat
namespace Go.Proofs.YtpknpbeiifjmgaaGreat
open Go.RowKit
theorem kret {a b : Int} (h : a = b) : Ending.returned (.int .i64 a) = .returned (.int .i64 b) := by rw [h]
def kind (n : Int) : Int :=
  if (97 ≤ n ∧ n ≤ 122) ∨ (65 ≤ n ∧ n ≤ 90) then 1
  else if n = 94 ∨ n = 126 ∨ n = 37 then 2
  else if 48 ≤ n ∧ n ≤ 57 then 3
  else if n = 39 then 4
  else if n = 32 then 6
  else if n = 46 ∨ n = 44 ∨ n = 59 ∨ n = 58 ∨ n = 33 ∨ n = 63 ∨ n = 40 ∨ n = 41 ∨ n = 45 then 5
  else 0
theorem punct_at (n : Int) (h0 : 0 ≤ n) (h1 : n ≤ 255) : (0 ≤ Lib.indexByte [46, 44, 59, 58, 33, 63, 40, 41, 45] (UInt8.ofNat n.toNat)) ↔ (n = 46 ∨ n = 44 ∨ n = 59 ∨ n = 58 ∨ n = 33 ∨ n = 63 ∨ n = 40 ∨ n = 41 ∨ n = 45) := by
  obtain ⟨k, rfl⟩ := Int.eq_ofNat_of_zero_le h0
  have hk : k < 256 := by omega
  clear h0 h1
  have : ∀ k : Fin 256, (0 ≤ Lib.indexByte [46, 44, 59, 58, 33, 63, 40, 41, 45] (UInt8.ofNat (k.val : Int).toNat)) ↔ ((k.val : Int) = 46 ∨ (k.val : Int) = 44 ∨ (k.val : Int) = 59 ∨ (k.val : Int) = 58 ∨ (k.val : Int) = 33 ∨ (k.val : Int) = 63 ∨ (k.val : Int) = 40 ∨ (k.val : Int) = 41 ∨ (k.val : Int) = 45) := by decide +kernel
  exact this ⟨k, hk⟩
set_option maxHeartbeats 1000000 in
theorem kind_any (n : Int) (h0 : 0 ≤ n) (h1 : n ≤ 255) (w : World) :
    Calls Tryz.prog 111 #[.int .u8 n] w fun e w' => e = .returned (.int .i64 (kind n)) ∧ w = w' := by
  have HP := Lib.hid (punct_at n h0 h1)
  go_enter Tryz.func111, Tryz.ntmps111
  go_wp2_with (go_at_call 114; refine (Tryz.strings_IndexByte _ _ _).mono ?_; rintro e w' ⟨rfl, rfl⟩)
  all_goals
    go_ret
    refine ⟨kret ?_, rfl⟩
    have hp := HP.out
    try simp only [beq_iff_eq, beq_eq_false_iff_ne, bne_iff_ne, ne_eq, bne_eq_false_iff_eq] at *
    unfold kind
    first | (repeat' split) <;> omega | decide
set_option maxHeartbeats 2000000 in
theorem rkind_any (n : Int) (h0 : 0 ≤ n) (h1 : n ≤ 255) (w : World) :
    Calls Tryz.prog 113 #[.int .u8 n] w fun e w' => e = .returned (.int .i64 (kind n)) ∧ w = w' := by
  go_enter Tryz.func113, Tryz.ntmps113
  go_wp2_with fail
  all_goals
    go_ret
    refine ⟨kret ?_, rfl⟩
    try simp only [beq_iff_eq, beq_eq_false_iff_ne, ne_eq] at *
    unfold kind
    first | (repeat' split) <;> omega | decide
end Go.Proofs.YtpknpbeiifjmgaaGreat
