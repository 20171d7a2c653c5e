/-
  Part 6 of the proof: Fi, Ls, Func, Srt. No statement of the seat is proved here.
-/
import Derived.Test.YtdigdmnnjbndlaaGreatDoorMHTa395
import Derived.Test.YtdigdmnnjbndlaaGreatDoorRows
namespace Go.Proofs.YtdigdmnnjbndlaaGreatDoor
instance : TOne Tryz.prog 1 (.nilFunc) := ⟨fun w => by kernel_rfl, fun w => by kernel_rfl, fun w => by kernel_rfl, rfl⟩
instance : TOne Tryz.prog 2 (.int .i64 0) := ⟨fun w => by kernel_rfl, fun w => by kernel_rfl, fun w => by kernel_rfl, rfl⟩
instance : TOne Tryz.prog 3 (.int .i64 0) := ⟨fun w => by kernel_rfl, fun w => by kernel_rfl, fun w => by kernel_rfl, rfl⟩
instance : TOne Tryz.prog 4 (.bool false) := ⟨fun w => by kernel_rfl, fun w => by kernel_rfl, fun w => by kernel_rfl, rfl⟩
instance : TOne Tryz.prog 5 (.int .u8 0) := ⟨fun w => by kernel_rfl, fun w => by kernel_rfl, fun w => by kernel_rfl, rfl⟩
instance : TOne Tryz.prog 9 (.string ⟨#[]⟩) := ⟨fun w => by kernel_rfl, fun w => by kernel_rfl, fun w => by kernel_rfl, rfl⟩
instance : TStr Tryz.prog 9 := ⟨by kernel_rfl⟩
instance : TOne Tryz.prog 12 (.int .u64 0) := ⟨fun w => by kernel_rfl, fun w => by kernel_rfl, fun w => by kernel_rfl, rfl⟩
instance : TAgg Tryz.prog 13 2 [.string ⟨#[]⟩, .int .u64 0] := ⟨fun w => by kernel_rfl, fun w => by kernel_rfl, fun w => by kernel_rfl⟩
instance : TFld Tryz.prog 13 0 0 9 := ⟨by kernel_rfl, by kernel_rfl⟩
instance : TFld Tryz.prog 13 1 1 12 := ⟨by kernel_rfl, by kernel_rfl⟩
instance : TStruct Tryz.prog 13 [(0, 1), (1, 1)] := ⟨by kernel_rfl⟩
instance : TOne Tryz.prog 20 (.nilIface) := ⟨fun w => by kernel_rfl, fun w => by kernel_rfl, fun w => by kernel_rfl, rfl⟩
instance : TOne Tryz.prog 21 (.int .i32 0) := ⟨fun w => by kernel_rfl, fun w => by kernel_rfl, fun w => by kernel_rfl, rfl⟩
instance : TOne Tryz.prog 22 (.slice none 0 0) := ⟨fun w => by kernel_rfl, fun w => by kernel_rfl, fun w => by kernel_rfl, rfl⟩
instance : TSlice Tryz.prog 22 3 1 8 (.int .i64 0) := ⟨⟨by kernel_rfl, by kernel_rfl, rfl, by decide⟩⟩
instance : TOne Tryz.prog 23 (.slice none 0 0) := ⟨fun w => by kernel_rfl, fun w => by kernel_rfl, fun w => by kernel_rfl, rfl⟩
instance : TSlice Tryz.prog 23 9 1 16 (.string ⟨#[]⟩) := ⟨⟨by kernel_rfl, by kernel_rfl, rfl, by decide⟩⟩
instance : TAgg Tryz.prog 24 2 [.slice none 0 0, .slice none 0 0] := ⟨fun w => by kernel_rfl, fun w => by kernel_rfl, fun w => by kernel_rfl⟩
instance : TFld Tryz.prog 24 0 0 22 := ⟨by kernel_rfl, by kernel_rfl⟩
instance : TFld Tryz.prog 24 1 1 23 := ⟨by kernel_rfl, by kernel_rfl⟩
instance : TStruct Tryz.prog 24 [(0, 1), (1, 1)] := ⟨by kernel_rfl⟩
instance : TAgg Tryz.prog 25 2 [.slice none 0 0, .slice none 0 0] := ⟨fun w => by kernel_rfl, fun w => by kernel_rfl, fun w => by kernel_rfl⟩
instance : TFld Tryz.prog 25 0 0 22 := ⟨by kernel_rfl, by kernel_rfl⟩
instance : TFld Tryz.prog 25 1 1 23 := ⟨by kernel_rfl, by kernel_rfl⟩
instance : TStruct Tryz.prog 25 [(0, 1), (1, 1)] := ⟨by kernel_rfl⟩
instance : TOne Tryz.prog 26 (.slice none 0 0) := ⟨fun w => by kernel_rfl, fun w => by kernel_rfl, fun w => by kernel_rfl, rfl⟩
instance : TSlice Tryz.prog 26 5 1 1 (.int .u8 0) := ⟨⟨by kernel_rfl, by kernel_rfl, rfl, by decide⟩⟩
instance : TOne Tryz.prog 27 (.nilFunc) := ⟨fun w => by kernel_rfl, fun w => by kernel_rfl, fun w => by kernel_rfl, rfl⟩
instance : TOne Tryz.prog 28 (.int .i64 0) := ⟨fun w => by kernel_rfl, fun w => by kernel_rfl, fun w => by kernel_rfl, rfl⟩
instance : TOne Tryz.prog 29 (.nilFunc) := ⟨fun w => by kernel_rfl, fun w => by kernel_rfl, fun w => by kernel_rfl, rfl⟩
instance : TOne Tryz.prog 30 (.nilFunc) := ⟨fun w => by kernel_rfl, fun w => by kernel_rfl, fun w => by kernel_rfl, rfl⟩
instance : TOne Tryz.prog 31 (.slice none 0 0) := ⟨fun w => by kernel_rfl, fun w => by kernel_rfl, fun w => by kernel_rfl, rfl⟩
instance : TSlice Tryz.prog 31 4 1 1 (.bool false) := ⟨⟨by kernel_rfl, by kernel_rfl, rfl, by decide⟩⟩
instance : TOne Tryz.prog 32 (.slice none 0 0) := ⟨fun w => by kernel_rfl, fun w => by kernel_rfl, fun w => by kernel_rfl, rfl⟩
instance : TSlice Tryz.prog 32 22 1 24 (.slice none 0 0) := ⟨⟨by kernel_rfl, by kernel_rfl, rfl, by decide⟩⟩
instance : TAgg Tryz.prog 33 3 [.slice none 0 0, .slice none 0 0, .slice none 0 0] := ⟨fun w => by kernel_rfl, fun w => by kernel_rfl, fun w => by kernel_rfl⟩
instance : TFld Tryz.prog 33 0 0 23 := ⟨by kernel_rfl, by kernel_rfl⟩
instance : TFld Tryz.prog 33 1 1 31 := ⟨by kernel_rfl, by kernel_rfl⟩
instance : TFld Tryz.prog 33 2 2 32 := ⟨by kernel_rfl, by kernel_rfl⟩
instance : TStruct Tryz.prog 33 [(0, 1), (1, 1), (2, 1)] := ⟨by kernel_rfl⟩
instance : TAgg Tryz.prog 34 3 [.slice none 0 0, .slice none 0 0, .slice none 0 0] := ⟨fun w => by kernel_rfl, fun w => by kernel_rfl, fun w => by kernel_rfl⟩
instance : TFld Tryz.prog 34 0 0 23 := ⟨by kernel_rfl, by kernel_rfl⟩
instance : TFld Tryz.prog 34 1 1 31 := ⟨by kernel_rfl, by kernel_rfl⟩
instance : TFld Tryz.prog 34 2 2 32 := ⟨by kernel_rfl, by kernel_rfl⟩
instance : TStruct Tryz.prog 34 [(0, 1), (1, 1), (2, 1)] := ⟨by kernel_rfl⟩
instance : TOne Tryz.prog 36 (.nilFunc) := ⟨fun w => by kernel_rfl, fun w => by kernel_rfl, fun w => by kernel_rfl, rfl⟩
instance : TOne Tryz.prog 38 (.nilFunc) := ⟨fun w => by kernel_rfl, fun w => by kernel_rfl, fun w => by kernel_rfl, rfl⟩
instance : TOne Tryz.prog 39 (.nilFunc) := ⟨fun w => by kernel_rfl, fun w => by kernel_rfl, fun w => by kernel_rfl, rfl⟩
instance : TOne Tryz.prog 40 (.nilFunc) := ⟨fun w => by kernel_rfl, fun w => by kernel_rfl, fun w => by kernel_rfl, rfl⟩
instance : TOne Tryz.prog 42 (.nilFunc) := ⟨fun w => by kernel_rfl, fun w => by kernel_rfl, fun w => by kernel_rfl, rfl⟩
instance : TOne Tryz.prog 43 (.nilFunc) := ⟨fun w => by kernel_rfl, fun w => by kernel_rfl, fun w => by kernel_rfl, rfl⟩
instance : TOne Tryz.prog 44 (.nilFunc) := ⟨fun w => by kernel_rfl, fun w => by kernel_rfl, fun w => by kernel_rfl, rfl⟩
instance : TOne Tryz.prog 45 (.nilFunc) := ⟨fun w => by kernel_rfl, fun w => by kernel_rfl, fun w => by kernel_rfl, rfl⟩
instance : TOne Tryz.prog 46 (.nilFunc) := ⟨fun w => by kernel_rfl, fun w => by kernel_rfl, fun w => by kernel_rfl, rfl⟩
instance : TOne Tryz.prog 48 (.nilFunc) := ⟨fun w => by kernel_rfl, fun w => by kernel_rfl, fun w => by kernel_rfl, rfl⟩
instance : TOne Tryz.prog 49 (.nilFunc) := ⟨fun w => by kernel_rfl, fun w => by kernel_rfl, fun w => by kernel_rfl, rfl⟩
instance : TOne Tryz.prog 50 (.nilFunc) := ⟨fun w => by kernel_rfl, fun w => by kernel_rfl, fun w => by kernel_rfl, rfl⟩
instance : TOne Tryz.prog 51 (.nilFunc) := ⟨fun w => by kernel_rfl, fun w => by kernel_rfl, fun w => by kernel_rfl, rfl⟩
instance : TOne Tryz.prog 52 (.nilFunc) := ⟨fun w => by kernel_rfl, fun w => by kernel_rfl, fun w => by kernel_rfl, rfl⟩
instance : TOne Tryz.prog 53 (.nilFunc) := ⟨fun w => by kernel_rfl, fun w => by kernel_rfl, fun w => by kernel_rfl, rfl⟩
instance : TOne Tryz.prog 55 (.nilFunc) := ⟨fun w => by kernel_rfl, fun w => by kernel_rfl, fun w => by kernel_rfl, rfl⟩
instance : TOne Tryz.prog 56 (.nilFunc) := ⟨fun w => by kernel_rfl, fun w => by kernel_rfl, fun w => by kernel_rfl, rfl⟩
instance : TOne Tryz.prog 57 (.nilFunc) := ⟨fun w => by kernel_rfl, fun w => by kernel_rfl, fun w => by kernel_rfl, rfl⟩
instance : TOne Tryz.prog 58 (.nilFunc) := ⟨fun w => by kernel_rfl, fun w => by kernel_rfl, fun w => by kernel_rfl, rfl⟩
instance : TOne Tryz.prog 59 (.nilFunc) := ⟨fun w => by kernel_rfl, fun w => by kernel_rfl, fun w => by kernel_rfl, rfl⟩
instance : TOne Tryz.prog 60 (.slice none 0 0) := ⟨fun w => by kernel_rfl, fun w => by kernel_rfl, fun w => by kernel_rfl, rfl⟩
instance : TSlice Tryz.prog 60 61 1 1 (.int .i8 0) := ⟨⟨by kernel_rfl, by kernel_rfl, rfl, by decide⟩⟩
instance : TOne Tryz.prog 61 (.int .i8 0) := ⟨fun w => by kernel_rfl, fun w => by kernel_rfl, fun w => by kernel_rfl, rfl⟩
instance : TOne Tryz.prog 62 (.nilFunc) := ⟨fun w => by kernel_rfl, fun w => by kernel_rfl, fun w => by kernel_rfl, rfl⟩
instance : TOne Tryz.prog 64 (.nilFunc) := ⟨fun w => by kernel_rfl, fun w => by kernel_rfl, fun w => by kernel_rfl, rfl⟩
instance : TOne Tryz.prog 65 (.nilFunc) := ⟨fun w => by kernel_rfl, fun w => by kernel_rfl, fun w => by kernel_rfl, rfl⟩
instance : TOne Tryz.prog 66 (.nilFunc) := ⟨fun w => by kernel_rfl, fun w => by kernel_rfl, fun w => by kernel_rfl, rfl⟩
instance : TOne Tryz.prog 67 (.nilFunc) := ⟨fun w => by kernel_rfl, fun w => by kernel_rfl, fun w => by kernel_rfl, rfl⟩
instance : TOne Tryz.prog 68 (.nilFunc) := ⟨fun w => by kernel_rfl, fun w => by kernel_rfl, fun w => by kernel_rfl, rfl⟩
instance : TOne Tryz.prog 69 (.nilFunc) := ⟨fun w => by kernel_rfl, fun w => by kernel_rfl, fun w => by kernel_rfl, rfl⟩
instance : TOne Tryz.prog 70 (.slice none 0 0) := ⟨fun w => by kernel_rfl, fun w => by kernel_rfl, fun w => by kernel_rfl, rfl⟩
instance : TSlice Tryz.prog 70 76 2 16 (.agg #[.int .i64 0, .int .i64 0]) := ⟨⟨by kernel_rfl, by kernel_rfl, rfl, by decide⟩⟩
instance : TOne Tryz.prog 72 (.nilFunc) := ⟨fun w => by kernel_rfl, fun w => by kernel_rfl, fun w => by kernel_rfl, rfl⟩
instance : TOne Tryz.prog 73 (.nilFunc) := ⟨fun w => by kernel_rfl, fun w => by kernel_rfl, fun w => by kernel_rfl, rfl⟩
instance : TOne Tryz.prog 74 (.nilFunc) := ⟨fun w => by kernel_rfl, fun w => by kernel_rfl, fun w => by kernel_rfl, rfl⟩
instance : TAgg Tryz.prog 75 2 [.int .i64 0, .int .i64 0] := ⟨fun w => by kernel_rfl, fun w => by kernel_rfl, fun w => by kernel_rfl⟩
instance : TFld Tryz.prog 75 0 0 3 := ⟨by kernel_rfl, by kernel_rfl⟩
instance : TFld Tryz.prog 75 1 1 3 := ⟨by kernel_rfl, by kernel_rfl⟩
instance : TStruct Tryz.prog 75 [(0, 1), (1, 1)] := ⟨by kernel_rfl⟩
instance : TAgg Tryz.prog 76 2 [.int .i64 0, .int .i64 0] := ⟨fun w => by kernel_rfl, fun w => by kernel_rfl, fun w => by kernel_rfl⟩
instance : TFld Tryz.prog 76 0 0 3 := ⟨by kernel_rfl, by kernel_rfl⟩
instance : TFld Tryz.prog 76 1 1 3 := ⟨by kernel_rfl, by kernel_rfl⟩
instance : TStruct Tryz.prog 76 [(0, 1), (1, 1)] := ⟨by kernel_rfl⟩
instance : TOne Tryz.prog 77 (.nilFunc) := ⟨fun w => by kernel_rfl, fun w => by kernel_rfl, fun w => by kernel_rfl, rfl⟩
instance : TOne Tryz.prog 78 (.nilFunc) := ⟨fun w => by kernel_rfl, fun w => by kernel_rfl, fun w => by kernel_rfl, rfl⟩
instance : TOne Tryz.prog 79 (.nilFunc) := ⟨fun w => by kernel_rfl, fun w => by kernel_rfl, fun w => by kernel_rfl, rfl⟩
instance : TOne Tryz.prog 80 (.int .u64 0) := ⟨fun w => by kernel_rfl, fun w => by kernel_rfl, fun w => by kernel_rfl, rfl⟩
instance : TOne Tryz.prog 82 (.nilFunc) := ⟨fun w => by kernel_rfl, fun w => by kernel_rfl, fun w => by kernel_rfl, rfl⟩
instance : TOne Tryz.prog 84 (.nilFunc) := ⟨fun w => by kernel_rfl, fun w => by kernel_rfl, fun w => by kernel_rfl, rfl⟩
instance : TOne Tryz.prog 85 (.nilFunc) := ⟨fun w => by kernel_rfl, fun w => by kernel_rfl, fun w => by kernel_rfl, rfl⟩
instance : TOne Tryz.prog 87 (.nilFunc) := ⟨fun w => by kernel_rfl, fun w => by kernel_rfl, fun w => by kernel_rfl, rfl⟩
instance : TOne Tryz.prog 88 (.nilFunc) := ⟨fun w => by kernel_rfl, fun w => by kernel_rfl, fun w => by kernel_rfl, rfl⟩
instance : TOne Tryz.prog 89 (.nilFunc) := ⟨fun w => by kernel_rfl, fun w => by kernel_rfl, fun w => by kernel_rfl, rfl⟩
instance : TOne Tryz.prog 90 (.nilFunc) := ⟨fun w => by kernel_rfl, fun w => by kernel_rfl, fun w => by kernel_rfl, rfl⟩
instance : TOne Tryz.prog 91 (.slice none 0 0) := ⟨fun w => by kernel_rfl, fun w => by kernel_rfl, fun w => by kernel_rfl, rfl⟩
instance : TSlice Tryz.prog 91 23 1 24 (.slice none 0 0) := ⟨⟨by kernel_rfl, by kernel_rfl, rfl, by decide⟩⟩
instance : TOne Tryz.prog 92 (.map none) := ⟨fun w => by kernel_rfl, fun w => by kernel_rfl, fun w => by kernel_rfl, rfl⟩
instance : TOne Tryz.prog 93 (.nilFunc) := ⟨fun w => by kernel_rfl, fun w => by kernel_rfl, fun w => by kernel_rfl, rfl⟩
instance : TOne Tryz.prog 94 (.nilFunc) := ⟨fun w => by kernel_rfl, fun w => by kernel_rfl, fun w => by kernel_rfl, rfl⟩
instance : TOne Tryz.prog 95 (.nilFunc) := ⟨fun w => by kernel_rfl, fun w => by kernel_rfl, fun w => by kernel_rfl, rfl⟩
instance : TOne Tryz.prog 97 (.nilFunc) := ⟨fun w => by kernel_rfl, fun w => by kernel_rfl, fun w => by kernel_rfl, rfl⟩
instance : TOne Tryz.prog 98 (.pointer none) := ⟨fun w => by kernel_rfl, fun w => by kernel_rfl, fun w => by kernel_rfl, rfl⟩
instance : TAgg Tryz.prog 99 2 [.pointer none, .slice none 0 0] := ⟨fun w => by kernel_rfl, fun w => by kernel_rfl, fun w => by kernel_rfl⟩
instance : TFld Tryz.prog 99 0 0 98 := ⟨by kernel_rfl, by kernel_rfl⟩
instance : TFld Tryz.prog 99 1 1 26 := ⟨by kernel_rfl, by kernel_rfl⟩
instance : TStruct Tryz.prog 99 [(0, 1), (1, 1)] := ⟨by kernel_rfl⟩
instance : TAgg Tryz.prog 100 2 [.pointer none, .slice none 0 0] := ⟨fun w => by kernel_rfl, fun w => by kernel_rfl, fun w => by kernel_rfl⟩
instance : TFld Tryz.prog 100 0 0 98 := ⟨by kernel_rfl, by kernel_rfl⟩
instance : TFld Tryz.prog 100 1 1 26 := ⟨by kernel_rfl, by kernel_rfl⟩
instance : TStruct Tryz.prog 100 [(0, 1), (1, 1)] := ⟨by kernel_rfl⟩
instance : TOne Tryz.prog 101 (.nilIface) := ⟨fun w => by kernel_rfl, fun w => by kernel_rfl, fun w => by kernel_rfl, rfl⟩
instance : TOne Tryz.prog 102 (.nilIface) := ⟨fun w => by kernel_rfl, fun w => by kernel_rfl, fun w => by kernel_rfl, rfl⟩
instance : TOne Tryz.prog 104 (.nilFunc) := ⟨fun w => by kernel_rfl, fun w => by kernel_rfl, fun w => by kernel_rfl, rfl⟩
instance : TOne Tryz.prog 105 (.nilFunc) := ⟨fun w => by kernel_rfl, fun w => by kernel_rfl, fun w => by kernel_rfl, rfl⟩
instance : TOne Tryz.prog 106 (.nilFunc) := ⟨fun w => by kernel_rfl, fun w => by kernel_rfl, fun w => by kernel_rfl, rfl⟩
instance : TOne Tryz.prog 107 (.nilFunc) := ⟨fun w => by kernel_rfl, fun w => by kernel_rfl, fun w => by kernel_rfl, rfl⟩
instance : TOne Tryz.prog 108 (.nilFunc) := ⟨fun w => by kernel_rfl, fun w => by kernel_rfl, fun w => by kernel_rfl, rfl⟩
instance : TOne Tryz.prog 109 (.nilFunc) := ⟨fun w => by kernel_rfl, fun w => by kernel_rfl, fun w => by kernel_rfl, rfl⟩
instance : TOne Tryz.prog 110 (.nilFunc) := ⟨fun w => by kernel_rfl, fun w => by kernel_rfl, fun w => by kernel_rfl, rfl⟩
instance : TOne Tryz.prog 111 (.nilFunc) := ⟨fun w => by kernel_rfl, fun w => by kernel_rfl, fun w => by kernel_rfl, rfl⟩
instance : TOne Tryz.prog 112 (.nilFunc) := ⟨fun w => by kernel_rfl, fun w => by kernel_rfl, fun w => by kernel_rfl, rfl⟩
instance : TOne Tryz.prog 113 (.nilFunc) := ⟨fun w => by kernel_rfl, fun w => by kernel_rfl, fun w => by kernel_rfl, rfl⟩
instance : TOne Tryz.prog 114 (.nilFunc) := ⟨fun w => by kernel_rfl, fun w => by kernel_rfl, fun w => by kernel_rfl, rfl⟩
instance : TOne Tryz.prog 115 (.nilFunc) := ⟨fun w => by kernel_rfl, fun w => by kernel_rfl, fun w => by kernel_rfl, rfl⟩
instance : TOne Tryz.prog 116 (.nilFunc) := ⟨fun w => by kernel_rfl, fun w => by kernel_rfl, fun w => by kernel_rfl, rfl⟩
instance : TOne Tryz.prog 117 (.nilFunc) := ⟨fun w => by kernel_rfl, fun w => by kernel_rfl, fun w => by kernel_rfl, rfl⟩
instance : TOne Tryz.prog 118 (.nilFunc) := ⟨fun w => by kernel_rfl, fun w => by kernel_rfl, fun w => by kernel_rfl, rfl⟩
instance : TOne Tryz.prog 119 (.nilFunc) := ⟨fun w => by kernel_rfl, fun w => by kernel_rfl, fun w => by kernel_rfl, rfl⟩
instance : TOne Tryz.prog 120 (.nilFunc) := ⟨fun w => by kernel_rfl, fun w => by kernel_rfl, fun w => by kernel_rfl, rfl⟩
instance : TOne Tryz.prog 121 (.int .u32 0) := ⟨fun w => by kernel_rfl, fun w => by kernel_rfl, fun w => by kernel_rfl, rfl⟩
instance : TOne Tryz.prog 123 (.nilFunc) := ⟨fun w => by kernel_rfl, fun w => by kernel_rfl, fun w => by kernel_rfl, rfl⟩
instance : TOne Tryz.prog 124 (.int .u64 0) := ⟨fun w => by kernel_rfl, fun w => by kernel_rfl, fun w => by kernel_rfl, rfl⟩
instance : TOne Tryz.prog 126 (.nilFunc) := ⟨fun w => by kernel_rfl, fun w => by kernel_rfl, fun w => by kernel_rfl, rfl⟩
instance : TOne Tryz.prog 127 (.nilFunc) := ⟨fun w => by kernel_rfl, fun w => by kernel_rfl, fun w => by kernel_rfl, rfl⟩
instance : TOne Tryz.prog 128 (.nilFunc) := ⟨fun w => by kernel_rfl, fun w => by kernel_rfl, fun w => by kernel_rfl, rfl⟩
instance : TOne Tryz.prog 129 (.nilFunc) := ⟨fun w => by kernel_rfl, fun w => by kernel_rfl, fun w => by kernel_rfl, rfl⟩
instance : TOne Tryz.prog 130 (.nilFunc) := ⟨fun w => by kernel_rfl, fun w => by kernel_rfl, fun w => by kernel_rfl, rfl⟩
instance : TOne Tryz.prog 131 (.nilFunc) := ⟨fun w => by kernel_rfl, fun w => by kernel_rfl, fun w => by kernel_rfl, rfl⟩
instance : TOne Tryz.prog 132 (.nilFunc) := ⟨fun w => by kernel_rfl, fun w => by kernel_rfl, fun w => by kernel_rfl, rfl⟩
instance : TOne Tryz.prog 133 (.nilFunc) := ⟨fun w => by kernel_rfl, fun w => by kernel_rfl, fun w => by kernel_rfl, rfl⟩
instance : TOne Tryz.prog 134 (.nilFunc) := ⟨fun w => by kernel_rfl, fun w => by kernel_rfl, fun w => by kernel_rfl, rfl⟩
instance : TOne Tryz.prog 135 (.nilFunc) := ⟨fun w => by kernel_rfl, fun w => by kernel_rfl, fun w => by kernel_rfl, rfl⟩
instance : TOne Tryz.prog 136 (.nilFunc) := ⟨fun w => by kernel_rfl, fun w => by kernel_rfl, fun w => by kernel_rfl, rfl⟩
instance : TOne Tryz.prog 137 (.nilFunc) := ⟨fun w => by kernel_rfl, fun w => by kernel_rfl, fun w => by kernel_rfl, rfl⟩
instance : TOne Tryz.prog 138 (.nilFunc) := ⟨fun w => by kernel_rfl, fun w => by kernel_rfl, fun w => by kernel_rfl, rfl⟩
instance : TOne Tryz.prog 139 (.nilFunc) := ⟨fun w => by kernel_rfl, fun w => by kernel_rfl, fun w => by kernel_rfl, rfl⟩
instance : TOne Tryz.prog 141 (.nilFunc) := ⟨fun w => by kernel_rfl, fun w => by kernel_rfl, fun w => by kernel_rfl, rfl⟩
instance : TOne Tryz.prog 142 (.nilFunc) := ⟨fun w => by kernel_rfl, fun w => by kernel_rfl, fun w => by kernel_rfl, rfl⟩
instance : TOne Tryz.prog 143 (.pointer none) := ⟨fun w => by kernel_rfl, fun w => by kernel_rfl, fun w => by kernel_rfl, rfl⟩
instance : TOne Tryz.prog 144 (.nilFunc) := ⟨fun w => by kernel_rfl, fun w => by kernel_rfl, fun w => by kernel_rfl, rfl⟩
instance : TOne Tryz.prog 146 (.nilFunc) := ⟨fun w => by kernel_rfl, fun w => by kernel_rfl, fun w => by kernel_rfl, rfl⟩
instance : TOne Tryz.prog 147 (.nilFunc) := ⟨fun w => by kernel_rfl, fun w => by kernel_rfl, fun w => by kernel_rfl, rfl⟩
instance : TOne Tryz.prog 148 (.slice none 0 0) := ⟨fun w => by kernel_rfl, fun w => by kernel_rfl, fun w => by kernel_rfl, rfl⟩
instance : TSlice Tryz.prog 148 151 16 16 (.agg #[.bool false, .bool false, .bool false, .bool false, .bool false, .bool false, .bool false, .bool false, .bool false, .bool false, .bool false, .bool false, .bool false, .bool false, .bool false, .bool false]) := ⟨⟨by kernel_rfl, by kernel_rfl, rfl, by decide⟩⟩
instance : TOne Tryz.prog 149 (.nilFunc) := ⟨fun w => by kernel_rfl, fun w => by kernel_rfl, fun w => by kernel_rfl, rfl⟩
instance : TOne Tryz.prog 150 (.nilFunc) := ⟨fun w => by kernel_rfl, fun w => by kernel_rfl, fun w => by kernel_rfl, rfl⟩
instance : TAgg Tryz.prog 151 16 [.bool false, .bool false, .bool false, .bool false, .bool false, .bool false, .bool false, .bool false, .bool false, .bool false, .bool false, .bool false, .bool false, .bool false, .bool false, .bool false] := ⟨fun w => by kernel_rfl, fun w => by kernel_rfl, fun w => by kernel_rfl⟩
instance : TOne Tryz.prog 152 (.nilFunc) := ⟨fun w => by kernel_rfl, fun w => by kernel_rfl, fun w => by kernel_rfl, rfl⟩
instance : TOne Tryz.prog 153 (.int .i64 0) := ⟨fun w => by kernel_rfl, fun w => by kernel_rfl, fun w => by kernel_rfl, rfl⟩
instance : TOne Tryz.prog 155 (.nilFunc) := ⟨fun w => by kernel_rfl, fun w => by kernel_rfl, fun w => by kernel_rfl, rfl⟩
instance : TOne Tryz.prog 156 (.nilFunc) := ⟨fun w => by kernel_rfl, fun w => by kernel_rfl, fun w => by kernel_rfl, rfl⟩
instance : TOne Tryz.prog 157 (.nilFunc) := ⟨fun w => by kernel_rfl, fun w => by kernel_rfl, fun w => by kernel_rfl, rfl⟩
instance : TOne Tryz.prog 158 (.nilFunc) := ⟨fun w => by kernel_rfl, fun w => by kernel_rfl, fun w => by kernel_rfl, rfl⟩
instance : TOne Tryz.prog 159 (.nilFunc) := ⟨fun w => by kernel_rfl, fun w => by kernel_rfl, fun w => by kernel_rfl, rfl⟩
instance : TOne Tryz.prog 160 (.nilFunc) := ⟨fun w => by kernel_rfl, fun w => by kernel_rfl, fun w => by kernel_rfl, rfl⟩
instance : TOne Tryz.prog 161 (.nilFunc) := ⟨fun w => by kernel_rfl, fun w => by kernel_rfl, fun w => by kernel_rfl, rfl⟩
instance : TOne Tryz.prog 162 (.nilFunc) := ⟨fun w => by kernel_rfl, fun w => by kernel_rfl, fun w => by kernel_rfl, rfl⟩
instance : TOne Tryz.prog 163 (.nilFunc) := ⟨fun w => by kernel_rfl, fun w => by kernel_rfl, fun w => by kernel_rfl, rfl⟩
instance : TOne Tryz.prog 164 (.nilFunc) := ⟨fun w => by kernel_rfl, fun w => by kernel_rfl, fun w => by kernel_rfl, rfl⟩
instance : TOne Tryz.prog 167 (.nilFunc) := ⟨fun w => by kernel_rfl, fun w => by kernel_rfl, fun w => by kernel_rfl, rfl⟩
instance : TOne Tryz.prog 168 (.int .u64 0) := ⟨fun w => by kernel_rfl, fun w => by kernel_rfl, fun w => by kernel_rfl, rfl⟩
instance : TOne Tryz.prog 169 (.nilFunc) := ⟨fun w => by kernel_rfl, fun w => by kernel_rfl, fun w => by kernel_rfl, rfl⟩
instance : TOne Tryz.prog 170 (.nilFunc) := ⟨fun w => by kernel_rfl, fun w => by kernel_rfl, fun w => by kernel_rfl, rfl⟩
instance : TOne Tryz.prog 171 (.nilFunc) := ⟨fun w => by kernel_rfl, fun w => by kernel_rfl, fun w => by kernel_rfl, rfl⟩
instance : TOne Tryz.prog 172 (.pointer none) := ⟨fun w => by kernel_rfl, fun w => by kernel_rfl, fun w => by kernel_rfl, rfl⟩
instance : TOne Tryz.prog 173 (.nilFunc) := ⟨fun w => by kernel_rfl, fun w => by kernel_rfl, fun w => by kernel_rfl, rfl⟩
instance : TOne Tryz.prog 174 (.nilFunc) := ⟨fun w => by kernel_rfl, fun w => by kernel_rfl, fun w => by kernel_rfl, rfl⟩
instance : TOne Tryz.prog 175 (.nilFunc) := ⟨fun w => by kernel_rfl, fun w => by kernel_rfl, fun w => by kernel_rfl, rfl⟩
instance : TAgg Tryz.prog 176 24 [.int .u8 0, .int .u8 0, .int .u8 0, .int .u8 0, .int .u8 0, .int .u8 0, .int .u8 0, .int .u8 0, .int .u8 0, .int .u8 0, .int .u8 0, .int .u8 0, .int .u8 0, .int .u8 0, .int .u8 0, .int .u8 0, .int .u8 0, .int .u8 0, .int .u8 0, .int .u8 0, .int .u8 0, .int .u8 0, .int .u8 0, .int .u8 0] := ⟨fun w => by kernel_rfl, fun w => by kernel_rfl, fun w => by kernel_rfl⟩
instance : TOne Tryz.prog 177 (.nilFunc) := ⟨fun w => by kernel_rfl, fun w => by kernel_rfl, fun w => by kernel_rfl, rfl⟩
instance : TOne Tryz.prog 179 (.nilFunc) := ⟨fun w => by kernel_rfl, fun w => by kernel_rfl, fun w => by kernel_rfl, rfl⟩
instance : TOne Tryz.prog 180 (.nilFunc) := ⟨fun w => by kernel_rfl, fun w => by kernel_rfl, fun w => by kernel_rfl, rfl⟩
instance : TOne Tryz.prog 181 (.nilFunc) := ⟨fun w => by kernel_rfl, fun w => by kernel_rfl, fun w => by kernel_rfl, rfl⟩
instance : TOne Tryz.prog 182 (.nilFunc) := ⟨fun w => by kernel_rfl, fun w => by kernel_rfl, fun w => by kernel_rfl, rfl⟩
instance : TOne Tryz.prog 183 (.nilFunc) := ⟨fun w => by kernel_rfl, fun w => by kernel_rfl, fun w => by kernel_rfl, rfl⟩
instance : TOne Tryz.prog 184 (.pointer none) := ⟨fun w => by kernel_rfl, fun w => by kernel_rfl, fun w => by kernel_rfl, rfl⟩
instance : TOne Tryz.prog 185 (.nilFunc) := ⟨fun w => by kernel_rfl, fun w => by kernel_rfl, fun w => by kernel_rfl, rfl⟩
instance : TOne Tryz.prog 186 (.nilFunc) := ⟨fun w => by kernel_rfl, fun w => by kernel_rfl, fun w => by kernel_rfl, rfl⟩
instance : TOne Tryz.prog 187 (.nilFunc) := ⟨fun w => by kernel_rfl, fun w => by kernel_rfl, fun w => by kernel_rfl, rfl⟩
instance : TOne Tryz.prog 188 (.nilFunc) := ⟨fun w => by kernel_rfl, fun w => by kernel_rfl, fun w => by kernel_rfl, rfl⟩
instance : TAgg Tryz.prog 189 20 [.int .u64 0, .int .u64 0, .int .u64 0, .int .u64 0, .int .u64 0, .int .u64 0, .int .u64 0, .int .u64 0, .int .u64 0, .int .u64 0, .int .u64 0, .int .u64 0, .int .u64 0, .int .u64 0, .int .u64 0, .int .u64 0, .int .u64 0, .int .u64 0, .int .u64 0, .int .u64 0] := ⟨fun w => by kernel_rfl, fun w => by kernel_rfl, fun w => by kernel_rfl⟩
instance : TAgg Tryz.prog 190 65 [.int .u8 0, .int .u8 0, .int .u8 0, .int .u8 0, .int .u8 0, .int .u8 0, .int .u8 0, .int .u8 0, .int .u8 0, .int .u8 0, .int .u8 0, .int .u8 0, .int .u8 0, .int .u8 0, .int .u8 0, .int .u8 0, .int .u8 0, .int .u8 0, .int .u8 0, .int .u8 0, .int .u8 0, .int .u8 0, .int .u8 0, .int .u8 0, .int .u8 0, .int .u8 0, .int .u8 0, .int .u8 0, .int .u8 0, .int .u8 0, .int .u8 0, .int .u8 0, .int .u8 0, .int .u8 0, .int .u8 0, .int .u8 0, .int .u8 0, .int .u8 0, .int .u8 0, .int .u8 0, .int .u8 0, .int .u8 0, .int .u8 0, .int .u8 0, .int .u8 0, .int .u8 0, .int .u8 0, .int .u8 0, .int .u8 0, .int .u8 0, .int .u8 0, .int .u8 0, .int .u8 0, .int .u8 0, .int .u8 0, .int .u8 0, .int .u8 0, .int .u8 0, .int .u8 0, .int .u8 0, .int .u8 0, .int .u8 0, .int .u8 0, .int .u8 0, .int .u8 0] := ⟨fun w => by kernel_rfl, fun w => by kernel_rfl, fun w => by kernel_rfl⟩
instance : TOne Tryz.prog 191 (.nilFunc) := ⟨fun w => by kernel_rfl, fun w => by kernel_rfl, fun w => by kernel_rfl, rfl⟩
instance : TOne Tryz.prog 193 (.nilFunc) := ⟨fun w => by kernel_rfl, fun w => by kernel_rfl, fun w => by kernel_rfl, rfl⟩
instance : TOne Tryz.prog 194 (.nilFunc) := ⟨fun w => by kernel_rfl, fun w => by kernel_rfl, fun w => by kernel_rfl, rfl⟩
instance : TAgg Tryz.prog 195 32 [.int .u8 0, .int .u8 0, .int .u8 0, .int .u8 0, .int .u8 0, .int .u8 0, .int .u8 0, .int .u8 0, .int .u8 0, .int .u8 0, .int .u8 0, .int .u8 0, .int .u8 0, .int .u8 0, .int .u8 0, .int .u8 0, .int .u8 0, .int .u8 0, .int .u8 0, .int .u8 0, .int .u8 0, .int .u8 0, .int .u8 0, .int .u8 0, .int .u8 0, .int .u8 0, .int .u8 0, .int .u8 0, .int .u8 0, .int .u8 0, .int .u8 0, .int .u8 0] := ⟨fun w => by kernel_rfl, fun w => by kernel_rfl, fun w => by kernel_rfl⟩
instance : TAgg Tryz.prog 196 64 [.int .u8 0, .int .u8 0, .int .u8 0, .int .u8 0, .int .u8 0, .int .u8 0, .int .u8 0, .int .u8 0, .int .u8 0, .int .u8 0, .int .u8 0, .int .u8 0, .int .u8 0, .int .u8 0, .int .u8 0, .int .u8 0, .int .u8 0, .int .u8 0, .int .u8 0, .int .u8 0, .int .u8 0, .int .u8 0, .int .u8 0, .int .u8 0, .int .u8 0, .int .u8 0, .int .u8 0, .int .u8 0, .int .u8 0, .int .u8 0, .int .u8 0, .int .u8 0, .int .u8 0, .int .u8 0, .int .u8 0, .int .u8 0, .int .u8 0, .int .u8 0, .int .u8 0, .int .u8 0, .int .u8 0, .int .u8 0, .int .u8 0, .int .u8 0, .int .u8 0, .int .u8 0, .int .u8 0, .int .u8 0, .int .u8 0, .int .u8 0, .int .u8 0, .int .u8 0, .int .u8 0, .int .u8 0, .int .u8 0, .int .u8 0, .int .u8 0, .int .u8 0, .int .u8 0, .int .u8 0, .int .u8 0, .int .u8 0, .int .u8 0, .int .u8 0] := ⟨fun w => by kernel_rfl, fun w => by kernel_rfl, fun w => by kernel_rfl⟩
instance : TAgg Tryz.prog 198 2 [.int .u8 0, .int .u8 0] := ⟨fun w => by kernel_rfl, fun w => by kernel_rfl, fun w => by kernel_rfl⟩
instance : TFld Tryz.prog 198 0 0 5 := ⟨by kernel_rfl, by kernel_rfl⟩
instance : TFld Tryz.prog 198 1 1 5 := ⟨by kernel_rfl, by kernel_rfl⟩
instance : TStruct Tryz.prog 198 [(0, 1), (1, 1)] := ⟨by kernel_rfl⟩
instance : TAgg Tryz.prog 199 2 [.int .u8 0, .int .u8 0] := ⟨fun w => by kernel_rfl, fun w => by kernel_rfl, fun w => by kernel_rfl⟩
instance : TFld Tryz.prog 199 0 0 5 := ⟨by kernel_rfl, by kernel_rfl⟩
instance : TFld Tryz.prog 199 1 1 5 := ⟨by kernel_rfl, by kernel_rfl⟩
instance : TStruct Tryz.prog 199 [(0, 1), (1, 1)] := ⟨by kernel_rfl⟩
instance : TAgg Tryz.prog 200 32 [.int .u8 0, .int .u8 0, .int .u8 0, .int .u8 0, .int .u8 0, .int .u8 0, .int .u8 0, .int .u8 0, .int .u8 0, .int .u8 0, .int .u8 0, .int .u8 0, .int .u8 0, .int .u8 0, .int .u8 0, .int .u8 0, .int .u8 0, .int .u8 0, .int .u8 0, .int .u8 0, .int .u8 0, .int .u8 0, .int .u8 0, .int .u8 0, .int .u8 0, .int .u8 0, .int .u8 0, .int .u8 0, .int .u8 0, .int .u8 0, .int .u8 0, .int .u8 0] := ⟨fun w => by kernel_rfl, fun w => by kernel_rfl, fun w => by kernel_rfl⟩
end Go.Proofs.YtdigdmnnjbndlaaGreatDoor
namespace Go.Proofs.YtdigdmnnjbndlaaGreatDoor
open Go.RowKit
theorem Sl.bound {w : World} {v : Value} {sz n : Nat} {f : Nat → Value} (h : Sl w v sz n f) : n ≤ 140737488355328 := h.len
theorem bool_eq {a b : Bool} (h : a = b) : Value.bool a = Value.bool b := by rw [h]
theorem int_eq {k : IntKind} {a b : Int} (h : a = b) : Value.int k a = Value.int k b := by rw [h]
theorem getD_lt {α : Type} (xs : List α) (k : Nat) (d : α) (h : k < xs.length) : xs.getD k d = xs[k] := by simp [h]
theorem getD_ge {α : Type} (xs : List α) (k : Nat) (d : α) (h : xs.length ≤ k) : xs.getD k d = d := by simp [List.getD_eq_getElem?_getD, List.getElem?_eq_none h]
theorem Sl.congr {w : World} {v : Value} {sz n : Nat} {f g : Nat → Value} (h : Sl w v sz n f) (e : ∀ j, j < n * sz → f j = g j) : Sl w v sz n g := by
  refine ⟨h.len, ?_, h.room⟩
  obtain ⟨a, cap, hv, hc⟩ := h.out
  refine ⟨a, cap, hv, ?_⟩
  rcases hc with h0 | ⟨b, off, ha, hc⟩
  · exact .inl h0
  · exact .inr ⟨b, off, ha, fun j hj => by rw [hc j hj, e j hj]⟩
theorem Ints.sl {w : World} {v : Value} {xs : List Int} (h : Ints w v xs) : Sl w v 1 xs.length (fun j => .int .i64 (xs.getD j 0)) := h
theorem Bools.sl {w : World} {v : Value} {xs : List Bool} (h : Bools w v xs) : Sl w v 1 xs.length (fun j => .bool (xs.getD j false)) := h
theorem Strs.sl {w : World} {v : Value} {xs : List ByteArray} (h : Strs w v xs) : Sl w v 1 xs.length (fun j => .string (xs.getD j ByteArray.empty)) := h.1
theorem Strs.le {w : World} {v : Value} {xs : List ByteArray} (h : Strs w v xs) (j : Nat) : (xs.getD j ByteArray.empty).size ≤ 140737488355328 := by
  by_cases hj : j < xs.length
  · rw [getD_lt _ _ _ hj]; exact h.2 _ (List.getElem_mem hj)
  · rw [getD_ge _ _ _ (by omega)]; exact Nat.zero_le _
theorem Ints.nil (w : World) : Ints w (.slice none 0 0) [] := ⟨by simp, ⟨_, _, rfl, .inl rfl⟩, fun a m c h => by simp only [Value.slice.injEq] at h;omega⟩
theorem Tabs.rows {w : World} {v : Value} {xs : List (List Int)} (h : Tabs w v xs) : ∃ fv : Nat → Value, Sl w v 1 xs.length fv ∧ ∀ j, Ints w (fv j) (xs.getD j []) := by
  obtain ⟨vs, h1, h2, h3⟩ := h
  refine ⟨fun j => if j < xs.length then vs.getD j undef else .slice none 0 0, h1.congr fun j hj => by rw [if_pos (by omega)], fun j => ?_⟩
  by_cases hj : j < xs.length
  · simp only [if_pos hj]; rw [getD_lt xs j [] hj]; exact h3 j hj
  · simp only [if_neg hj]; rw [getD_ge xs j [] (by omega)]; exact Ints.nil w
set_option maxRecDepth 100000 in
set_option maxHeartbeats 4000000 in
theorem contains_int_sat (v : Value) (xs : List Int) (x : Int) (w : World) (h : Ints w v xs) : SatV Tryz.prog 35 [v, .int .i64 x] w (.bool (hasI xs x)) :=
  Sat.lib ⟨_, _, Tryz.func35, by kernel_rfl, rfl⟩ fun w1 hb => (contains_int v xs x w1 (h.below hb)).mono fun e w' ⟨h1, h2⟩ => ⟨_, [], h1, by rw [← h2]; exact Hp.refl w1, rfl, rfl⟩
set_option maxRecDepth 100000 in
set_option maxHeartbeats 4000000 in
theorem equal_int_sat (v u : Value) (xs ys : List Int) (w : World) (h : Ints w v xs) (k : Ints w u ys) : SatV Tryz.prog 33 [v, u] w (.bool (xs == ys)) :=
  Sat.lib ⟨_, _, Tryz.func33, by kernel_rfl, rfl⟩ fun w1 hb => (equal_int v u xs ys w1 (h.below hb) (k.below hb)).mono fun e w' ⟨h1, h2⟩ => ⟨_, [], h1, h2.hp, rfl, rfl⟩
set_option maxRecDepth 100000 in
set_option maxHeartbeats 4000000 in
theorem clone_int_sat (v : Value) (xs : List Int) (w : World) (h : Ints w v xs) (hb : xs.length ≤ 1000000) : Sat Tryz.prog 91 [v] w (fun u L => L = [irow u xs]) :=
  Sat.lib ⟨_, _, Tryz.func91, by kernel_rfl, rfl⟩ fun w1 hb' => (clone_int v xs w1 (h.below hb') hb).mono fun e w' ⟨u, h1, h2⟩ => ⟨u, _, h1, h2, rfl⟩
end Go.Proofs.YtdigdmnnjbndlaaGreatDoor
namespace Go.Proofs.YtdigdmnnjbndlaaGreatDoor
open Go.RowKit
theorem Pt1.below {w w' : World} {p v : Value} (h : Pt1 w p v) (hb : Below w.heap.size w w') : Pt1 w' p v := by
  obtain ⟨b, o, rfl, hc⟩ := h
  exact ⟨b, o, rfl, (hb.cell (World.block_lt_of_cell? w _ hc)).trans hc⟩
theorem below_on {w0 w w' : World} (h : Below w0.heap.size w0 w) (hb : Below w.heap.size w w') : Below w0.heap.size w0 w' := h.trans (hb.mono h.size)
theorem SatL.row {P : Program} {f : FuncId} {args : List Value} {w0 : World} {L : List Res} {R : Value → List Res → Prop} (h : SatL P f args w0 L R) :
    SatL P f args w0 L (fun u L' => R u L' ∧ ∀ e sz v n xs, Res.row e sz v n xs ∈ L' → (∃ a c, v = .slice a n c) ∧ (0 < n → ∃ g c, v = .slice (some ⟨g, 0, none⟩) n c)) :=
  ⟨h.enters, fun w hp => (h.calls w hp).mono fun e w' ⟨v, L', h1, h2, h3⟩ => ⟨v, L', h1, h2, h3, fun e sz v n xs hm => by
    have ho : w'.ownsRow w0.heap.size e sz v n xs := h2.ok _ hm
    rcases ho.2 with ⟨rfl, h0⟩ | ⟨g, cap, cur, rfl, _⟩
    · obtain rfl : n = 0 := by have := ho.1;omega
      exact ⟨⟨_, _, rfl⟩, fun h => absurd h (by omega)⟩
    · exact ⟨⟨_, _, rfl⟩, fun _ => ⟨g, cap, rfl⟩⟩⟩⟩
def anyN (p : Nat → Bool) (N : Nat) : Bool := (List.range N).any p
theorem anyN_hit {p : Nat → Bool} {N k : Nat} (h : k < N) (e : p k = true) : anyN p N = true := List.any_eq_true.2 ⟨k, List.mem_range.2 h, e⟩
theorem anyN_none {p : Nat → Bool} {N : Nat} (h : ∀ j, j < N → p j = false) : anyN p N = false := by
  rw [anyN, List.any_eq_false]
  intro x hx
  rw [h x (List.mem_range.1 hx)]; simp
def IdxR (p : Nat → Bool) (N : Nat) (u : Value) (L : List Res) : Prop := ∃ i : Int, u = .int .i64 i ∧ L = [] ∧ anyN p N = decide (0 ≤ i)
set_option maxRecDepth 100000 in
set_option maxHeartbeats 4000000 in
theorem indexF_int_sat (v : Value) (N : Nat) (e : Nat → Value) (p : Nat → Bool) (g : FuncId) (cs : Array Value) (w : World) (h : Sl w v 1 N e) (hf : ∀ k, k < N → ∀ w1, Below w.heap.size w w1 → SatV Tryz.prog g (e k :: cs.toList) w1 (.bool (p k))) :
    Sat Tryz.prog 104 [v, .func (.func g) #[] cs] w (IdxR p N) := by
  have hN := h.bound
  refine SatL.of 19 [4] Tryz.func104 (by kernel_rfl) (by kernel_rfl) rfl rfl rfl rfl ?_
  repeat' (first|(apply OK_seq)|(apply thenQ_n)|(apply OK_region)|(apply OKx_nilK)|(apply OK_block)|(apply blockQ_n)|(apply blockQ_s)|(apply thenQ_e)|(apply blockQ_e;exact rfl)|(apply thenQ_r)|(apply blockQ_r)|(apply OK_condT;exact rfl)|(apply OK_condF;exact rfl)|(apply OK_skip)|(apply OK_exit)|(apply OK_ret)|(apply OKx_move;(conv=>lhs;whnf)<;>exact rfl)|(apply OKx_assign;(conv=>lhs;whnf)<;>exact rfl)|(apply OKx_ldB;exact rfl;(first | exact at0|exact at1|exact at2|exact at3|exact at4|exact at5|exact at6|exact at7);exact rfl)|(apply OKx_ldR;(conv=>lhs;whnf)<;>exact rfl;(with_reducible assumption))|(apply OKx_ldI;exact rfl;(first | exact at0|exact at1|exact at2|exact at3|exact at4|exact at5|exact at6|exact at7);omega)|(apply OKx_len;exact rfl)|(apply OKx_lenR;(conv=>lhs;whnf)<;>exact rfl;(with_reducible assumption))|(apply OKx_lenR2;(conv=>lhs;whnf)<;>exact rfl;(with_reducible assumption))|(apply OKx_lenO;(conv=>lhs;whnf)<;>exact rfl;(first | exact at0|exact at1|exact at2|exact at3|exact at4|exact at5|exact at6|exact at7))|(apply OKx_lss;exact rfl;exact rfl;all_goals (intro _; try (exfalso;omega)))|(apply OKx_idxO;exact rfl;exact rfl;omega)|(apply OKx_idxR;(conv=>lhs;whnf)<;>exact rfl;(with_reducible assumption);exact rfl;omega;intro _ _)|(apply OKx_idxOz;exact rfl;exact rfl;omega;omega)|(apply OKx_idxRz;(conv=>lhs;whnf)<;>exact rfl;(with_reducible assumption);exact rfl;omega;omega;intro _ _)|(apply OKx_inc;exact rfl;exact rfl;omega)|(apply OKx_addN;exact rfl;exact rfl;omega)|(apply OKx_add;exact rfl;exact rfl;omega;omega))
  refine OK_loop1 8 [4, 5, 8, 9, 10, 11, 12, 13, 14, 15, 16, 17, 18] (fun m v L => ∃ k : Nat, k + m = N ∧ v = .int .i64 (k : Int) ∧ (∀ j, j < k → p j = false) ∧ L = []) N [] (Ent.refl _ _) ⟨0, by omega, rfl, fun j hj => absurd hj (by omega), rfl⟩ ?_
  rintro m v' L G ⟨k, hm, rfl, H, rfl⟩
  repeat' (first|(apply OK_seq)|(apply thenQ_n)|(apply OK_region)|(refine OKx_callB (f := g) rfl rfl rfl (fun w hp => hf k (by omega) w hp.below) ?_ ?_ <;> intro hq)|(apply OKx_nilK)|(apply OK_block)|(apply blockQ_n)|(apply blockQ_s)|(apply thenQ_e)|(apply blockQ_e;exact rfl)|(apply thenQ_r)|(apply blockQ_r)|(apply OK_condT;exact rfl)|(apply OK_condF;exact rfl)|(apply OK_skip)|(apply OK_exit)|(apply OK_ret)|(apply OKx_move;(conv=>lhs;whnf)<;>exact rfl)|(apply OKx_assign;(conv=>lhs;whnf)<;>exact rfl)|(apply OKx_ldB;exact rfl;(first | exact at0|exact at1|exact at2|exact at3|exact at4|exact at5|exact at6|exact at7);exact rfl)|(apply OKx_ldR;(conv=>lhs;whnf)<;>exact rfl;(with_reducible assumption))|(apply OKx_ldI;exact rfl;(first | exact at0|exact at1|exact at2|exact at3|exact at4|exact at5|exact at6|exact at7);omega)|(apply OKx_len;exact rfl)|(apply OKx_lenR;(conv=>lhs;whnf)<;>exact rfl;(with_reducible assumption))|(apply OKx_lenR2;(conv=>lhs;whnf)<;>exact rfl;(with_reducible assumption))|(apply OKx_lenO;(conv=>lhs;whnf)<;>exact rfl;(first | exact at0|exact at1|exact at2|exact at3|exact at4|exact at5|exact at6|exact at7))|(apply OKx_lss;exact rfl;exact rfl;all_goals (intro _; try (exfalso;omega)))|(apply OKx_idxO;exact rfl;exact rfl;omega)|(apply OKx_idxR;(conv=>lhs;whnf)<;>exact rfl;(with_reducible assumption);exact rfl;omega;intro _ _)|(apply OKx_idxOz;exact rfl;exact rfl;omega;omega)|(apply OKx_idxRz;(conv=>lhs;whnf)<;>exact rfl;(with_reducible assumption);exact rfl;omega;omega;intro _ _)|(apply OKx_inc;exact rfl;exact rfl;omega)|(apply OKx_addN;exact rfl;exact rfl;omega)|(apply OKx_add;exact rfl;exact rfl;omega;omega))
  · refine bodyQ_r1 (by ((conv=>lhs;whnf)<;>exact rfl)) ?_
    exact ⟨_, Ent.refl _ _, _, rfl, rfl, by rw [anyN_hit (by omega) hq, decide_eq_true (by omega)]⟩
  · refine ⟨by (repeat' (first | refine agree_upd rfl ?_ | exact agree_over | exact agree_refl _ _ | refine agree_over2 rfl ?_)), m - 1, _, by omega, Ent.refl _ _, ?_⟩
    refine ⟨k + 1, by omega, rfl, fun j hj => ?_, rfl⟩
    by_cases hjk : j < k
    · exact H j hjk
    · obtain rfl : j = k := by omega
      exact hq
  · refine bodyQ_r1 (by ((conv=>lhs;whnf)<;>exact rfl)) ?_
    exact ⟨_, Ent.refl _ _, _, rfl, rfl, by rw [anyN_none fun j hj => H j (by omega)]; rfl⟩
set_option maxRecDepth 100000 in
set_option maxHeartbeats 4000000 in
theorem containsF_int_sat (v : Value) (N : Nat) (e : Nat → Value) (p : Nat → Bool) (g : FuncId) (cs : Array Value) (w : World) (h : Sl w v 1 N e) (hf : ∀ k, k < N → ∀ w1, Below w.heap.size w w1 → SatV Tryz.prog g (e k :: cs.toList) w1 (.bool (p k))) :
    SatV Tryz.prog 66 [v, .func (.func g) #[] cs] w (.bool (anyN p N)) := by
  refine SatL.of 9 [4] Tryz.func66 (by kernel_rfl) (by kernel_rfl) rfl rfl rfl rfl ?_
  repeat' (first|(apply OK_seq)|(apply thenQ_n)|(apply OK_region)|(apply OKx_gc 104;exact rfl; refine OKx_call (f := 104) rfl rfl (fun w hp => indexF_int_sat v N e p g cs w (h.below hp.below) (fun k hk w1 hb => hf k hk w1 (below_on hp.below hb))) ?_; rintro _ _ ⟨i, rfl, rfl, hi⟩)|(apply OKx_nilK)|(apply OK_block)|(apply blockQ_n)|(apply blockQ_s)|(apply thenQ_e)|(apply blockQ_e;exact rfl)|(apply thenQ_r)|(apply blockQ_r)|(apply OK_condT;exact rfl)|(apply OK_condF;exact rfl)|(apply OK_skip)|(apply OK_exit)|(apply OK_ret)|(apply OKx_move;(conv=>lhs;whnf)<;>exact rfl)|(apply OKx_assign;(conv=>lhs;whnf)<;>exact rfl)|(apply OKx_geq;exact rfl;exact rfl;all_goals (intro _; try (exfalso;omega))))
  all_goals
    refine bodyQ_r1 (by ((conv=>lhs;whnf)<;>exact rfl)) ?_
    exact ⟨_, Ent.refl _ _, bool_eq (by rw [hi]; simp;omega), rfl⟩
end Go.Proofs.YtdigdmnnjbndlaaGreatDoor
namespace Go.Proofs.YtdigdmnnjbndlaaGreatDoor
def srtK (xs : List Int) (k : Nat) : List Int := ((List.range k).filter (fun n : Nat => hasI xs (n : Int))).map (fun n : Nat => (n : Int))
theorem srtK_len (xs : List Int) (k : Nat) : (srtK xs k).length ≤ k := by
  unfold srtK
  rw [List.length_map]
  exact Nat.le_trans (List.length_filter_le _ _) (by simp)
theorem srtK_asc (xs : List Int) (k : Nat) : (srtK xs k).Pairwise (· < ·) := by
  unfold srtK
  rw [List.pairwise_map]
  refine List.Pairwise.filter _ ?_
  exact List.pairwise_lt_range.imp (fun h => by omega)
theorem srtK_mem (xs : List Int) (k : Nat) (x : Int) : x ∈ srtK xs k ↔ x ∈ xs ∧ 0 ≤ x ∧ x < k := by
  unfold srtK
  simp only [List.mem_map, List.mem_filter, List.mem_range, hasI, List.contains_iff_mem]
  constructor
  · rintro ⟨n, ⟨h1, h2⟩, rfl⟩
    exact ⟨h2, by omega, by omega⟩
  · rintro ⟨h1, h2, h3⟩
    exact ⟨x.toNat, ⟨by omega, by rwa [Int.toNat_of_nonneg h2]⟩, Int.toNat_of_nonneg h2⟩
theorem asc_ext : ∀ (xs ys : List Int), xs.Pairwise (· < ·) → ys.Pairwise (· < ·) → (∀ x, x ∈ xs ↔ x ∈ ys) → xs = ys := by
  intro xs
  induction xs with
  | nil =>
    intro ys _ _ h
    cases ys with
    | nil => rfl
    | cons y ys => exact absurd ((h y).2 (by simp)) (by simp)
  | cons x xs ih =>
    intro ys hx hy h
    cases ys with
    | nil => exact absurd ((h x).1 (by simp)) (by simp)
    | cons y ys =>
      have hx' := List.pairwise_cons.1 hx
      have hy' := List.pairwise_cons.1 hy
      have hxy : x = y := by
        rcases List.mem_cons.1 ((h x).1 (by simp)) with e | e
        · exact e
        · rcases List.mem_cons.1 ((h y).2 (by simp)) with e2 | e2
          · exact e2.symm
          · have := hy'.1 x e
            have := hx'.1 y e2
            omega
      subst hxy
      congr 1
      refine ih ys hx'.2 hy'.2 fun z => ⟨fun hz => ?_, fun hz => ?_⟩
      · rcases List.mem_cons.1 ((h z).1 (by simp [hz])) with e | e
        · have := hx'.1 z hz;omega
        · exact e
      · rcases List.mem_cons.1 ((h z).2 (by simp [hz])) with e | e
        · have := hy'.1 z hz;omega
        · exact e
theorem asc_of_le (xs : List Int) (h : xs.Pairwise (· ≤ ·)) (hn : xs.Nodup) : xs.Pairwise (· < ·) :=
  (h.and hn).imp (fun ⟨a, b⟩ => by omega)
end Go.Proofs.YtdigdmnnjbndlaaGreatDoor
