/-
  Part 5 of the proof: Fi, List, Ls, Func, Srt. No statement of the seat is proved here.
-/
import Derived.Test.YtpknpbeiifjmgaaDoorMHSa384
import Derived.Test.YtpknpbeiifjmgaaDoorRows
namespace Go.Proofs.YtpknpbeiifjmgaaDoor
instance : TOne Tryd.prog 1 (.nilFunc) := ⟨fun w => by kernel_rfl, fun w => by kernel_rfl, fun w => by kernel_rfl, rfl⟩
instance : TOne Tryd.prog 2 (.int .i64 0) := ⟨fun w => by kernel_rfl, fun w => by kernel_rfl, fun w => by kernel_rfl, rfl⟩
instance : TOne Tryd.prog 3 (.int .i64 0) := ⟨fun w => by kernel_rfl, fun w => by kernel_rfl, fun w => by kernel_rfl, rfl⟩
instance : TOne Tryd.prog 4 (.bool false) := ⟨fun w => by kernel_rfl, fun w => by kernel_rfl, fun w => by kernel_rfl, rfl⟩
instance : TOne Tryd.prog 5 (.int .u8 0) := ⟨fun w => by kernel_rfl, fun w => by kernel_rfl, fun w => by kernel_rfl, rfl⟩
instance : TOne Tryd.prog 9 (.string ⟨#[]⟩) := ⟨fun w => by kernel_rfl, fun w => by kernel_rfl, fun w => by kernel_rfl, rfl⟩
instance : TStr Tryd.prog 9 := ⟨by kernel_rfl⟩
instance : TOne Tryd.prog 12 (.int .u64 0) := ⟨fun w => by kernel_rfl, fun w => by kernel_rfl, fun w => by kernel_rfl, rfl⟩
instance : TAgg Tryd.prog 13 2 [.string ⟨#[]⟩, .int .u64 0] := ⟨fun w => by kernel_rfl, fun w => by kernel_rfl, fun w => by kernel_rfl⟩
instance : TFld Tryd.prog 13 0 0 9 := ⟨by kernel_rfl, by kernel_rfl⟩
instance : TFld Tryd.prog 13 1 1 12 := ⟨by kernel_rfl, by kernel_rfl⟩
instance : TStruct Tryd.prog 13 [(0, 1), (1, 1)] := ⟨by kernel_rfl⟩
instance : TOne Tryd.prog 20 (.nilIface) := ⟨fun w => by kernel_rfl, fun w => by kernel_rfl, fun w => by kernel_rfl, rfl⟩
instance : TOne Tryd.prog 21 (.int .i32 0) := ⟨fun w => by kernel_rfl, fun w => by kernel_rfl, fun w => by kernel_rfl, rfl⟩
instance : TOne Tryd.prog 22 (.slice none 0 0) := ⟨fun w => by kernel_rfl, fun w => by kernel_rfl, fun w => by kernel_rfl, rfl⟩
instance : TSlice Tryd.prog 22 9 1 16 (.string ⟨#[]⟩) := ⟨⟨by kernel_rfl, by kernel_rfl, rfl, by decide⟩⟩
instance : TOne Tryd.prog 23 (.slice none 0 0) := ⟨fun w => by kernel_rfl, fun w => by kernel_rfl, fun w => by kernel_rfl, rfl⟩
instance : TSlice Tryd.prog 23 4 1 1 (.bool false) := ⟨⟨by kernel_rfl, by kernel_rfl, rfl, by decide⟩⟩
instance : TOne Tryd.prog 24 (.slice none 0 0) := ⟨fun w => by kernel_rfl, fun w => by kernel_rfl, fun w => by kernel_rfl, rfl⟩
instance : TSlice Tryd.prog 24 27 1 24 (.slice none 0 0) := ⟨⟨by kernel_rfl, by kernel_rfl, rfl, by decide⟩⟩
instance : TAgg Tryd.prog 25 3 [.slice none 0 0, .slice none 0 0, .slice none 0 0] := ⟨fun w => by kernel_rfl, fun w => by kernel_rfl, fun w => by kernel_rfl⟩
instance : TFld Tryd.prog 25 0 0 22 := ⟨by kernel_rfl, by kernel_rfl⟩
instance : TFld Tryd.prog 25 1 1 23 := ⟨by kernel_rfl, by kernel_rfl⟩
instance : TFld Tryd.prog 25 2 2 24 := ⟨by kernel_rfl, by kernel_rfl⟩
instance : TStruct Tryd.prog 25 [(0, 1), (1, 1), (2, 1)] := ⟨by kernel_rfl⟩
instance : TAgg Tryd.prog 26 3 [.slice none 0 0, .slice none 0 0, .slice none 0 0] := ⟨fun w => by kernel_rfl, fun w => by kernel_rfl, fun w => by kernel_rfl⟩
instance : TFld Tryd.prog 26 0 0 22 := ⟨by kernel_rfl, by kernel_rfl⟩
instance : TFld Tryd.prog 26 1 1 23 := ⟨by kernel_rfl, by kernel_rfl⟩
instance : TFld Tryd.prog 26 2 2 24 := ⟨by kernel_rfl, by kernel_rfl⟩
instance : TStruct Tryd.prog 26 [(0, 1), (1, 1), (2, 1)] := ⟨by kernel_rfl⟩
instance : TOne Tryd.prog 27 (.slice none 0 0) := ⟨fun w => by kernel_rfl, fun w => by kernel_rfl, fun w => by kernel_rfl, rfl⟩
instance : TSlice Tryd.prog 27 3 1 8 (.int .i64 0) := ⟨⟨by kernel_rfl, by kernel_rfl, rfl, by decide⟩⟩
instance : TOne Tryd.prog 28 (.nilFunc) := ⟨fun w => by kernel_rfl, fun w => by kernel_rfl, fun w => by kernel_rfl, rfl⟩
instance : TOne Tryd.prog 29 (.int .i64 0) := ⟨fun w => by kernel_rfl, fun w => by kernel_rfl, fun w => by kernel_rfl, rfl⟩
instance : TOne Tryd.prog 30 (.nilFunc) := ⟨fun w => by kernel_rfl, fun w => by kernel_rfl, fun w => by kernel_rfl, rfl⟩
instance : TOne Tryd.prog 31 (.nilFunc) := ⟨fun w => by kernel_rfl, fun w => by kernel_rfl, fun w => by kernel_rfl, rfl⟩
instance : TOne Tryd.prog 32 (.nilFunc) := ⟨fun w => by kernel_rfl, fun w => by kernel_rfl, fun w => by kernel_rfl, rfl⟩
instance : TOne Tryd.prog 34 (.nilFunc) := ⟨fun w => by kernel_rfl, fun w => by kernel_rfl, fun w => by kernel_rfl, rfl⟩
instance : TOne Tryd.prog 35 (.nilFunc) := ⟨fun w => by kernel_rfl, fun w => by kernel_rfl, fun w => by kernel_rfl, rfl⟩
instance : TOne Tryd.prog 37 (.nilFunc) := ⟨fun w => by kernel_rfl, fun w => by kernel_rfl, fun w => by kernel_rfl, rfl⟩
instance : TOne Tryd.prog 38 (.nilFunc) := ⟨fun w => by kernel_rfl, fun w => by kernel_rfl, fun w => by kernel_rfl, rfl⟩
instance : TOne Tryd.prog 39 (.nilFunc) := ⟨fun w => by kernel_rfl, fun w => by kernel_rfl, fun w => by kernel_rfl, rfl⟩
instance : TAgg Tryd.prog 40 2 [.slice none 0 0, .slice none 0 0] := ⟨fun w => by kernel_rfl, fun w => by kernel_rfl, fun w => by kernel_rfl⟩
instance : TFld Tryd.prog 40 0 0 27 := ⟨by kernel_rfl, by kernel_rfl⟩
instance : TFld Tryd.prog 40 1 1 22 := ⟨by kernel_rfl, by kernel_rfl⟩
instance : TStruct Tryd.prog 40 [(0, 1), (1, 1)] := ⟨by kernel_rfl⟩
instance : TAgg Tryd.prog 41 2 [.slice none 0 0, .slice none 0 0] := ⟨fun w => by kernel_rfl, fun w => by kernel_rfl, fun w => by kernel_rfl⟩
instance : TFld Tryd.prog 41 0 0 27 := ⟨by kernel_rfl, by kernel_rfl⟩
instance : TFld Tryd.prog 41 1 1 22 := ⟨by kernel_rfl, by kernel_rfl⟩
instance : TStruct Tryd.prog 41 [(0, 1), (1, 1)] := ⟨by kernel_rfl⟩
instance : TOne Tryd.prog 43 (.nilFunc) := ⟨fun w => by kernel_rfl, fun w => by kernel_rfl, fun w => by kernel_rfl, rfl⟩
instance : TOne Tryd.prog 44 (.nilFunc) := ⟨fun w => by kernel_rfl, fun w => by kernel_rfl, fun w => by kernel_rfl, rfl⟩
instance : TOne Tryd.prog 45 (.nilFunc) := ⟨fun w => by kernel_rfl, fun w => by kernel_rfl, fun w => by kernel_rfl, rfl⟩
instance : TOne Tryd.prog 46 (.nilFunc) := ⟨fun w => by kernel_rfl, fun w => by kernel_rfl, fun w => by kernel_rfl, rfl⟩
instance : TOne Tryd.prog 47 (.nilFunc) := ⟨fun w => by kernel_rfl, fun w => by kernel_rfl, fun w => by kernel_rfl, rfl⟩
instance : TOne Tryd.prog 48 (.nilFunc) := ⟨fun w => by kernel_rfl, fun w => by kernel_rfl, fun w => by kernel_rfl, rfl⟩
instance : TOne Tryd.prog 49 (.nilFunc) := ⟨fun w => by kernel_rfl, fun w => by kernel_rfl, fun w => by kernel_rfl, rfl⟩
instance : TOne Tryd.prog 50 (.nilFunc) := ⟨fun w => by kernel_rfl, fun w => by kernel_rfl, fun w => by kernel_rfl, rfl⟩
instance : TOne Tryd.prog 52 (.nilFunc) := ⟨fun w => by kernel_rfl, fun w => by kernel_rfl, fun w => by kernel_rfl, rfl⟩
instance : TOne Tryd.prog 53 (.pointer none) := ⟨fun w => by kernel_rfl, fun w => by kernel_rfl, fun w => by kernel_rfl, rfl⟩
instance : TOne Tryd.prog 54 (.slice none 0 0) := ⟨fun w => by kernel_rfl, fun w => by kernel_rfl, fun w => by kernel_rfl, rfl⟩
instance : TSlice Tryd.prog 54 53 1 8 (.pointer none) := ⟨⟨by kernel_rfl, by kernel_rfl, rfl, by decide⟩⟩
instance : TAgg Tryd.prog 55 3 [.string ⟨#[]⟩, .slice none 0 0, .int .i64 0] := ⟨fun w => by kernel_rfl, fun w => by kernel_rfl, fun w => by kernel_rfl⟩
instance : TFld Tryd.prog 55 0 0 9 := ⟨by kernel_rfl, by kernel_rfl⟩
instance : TFld Tryd.prog 55 1 1 54 := ⟨by kernel_rfl, by kernel_rfl⟩
instance : TFld Tryd.prog 55 2 2 3 := ⟨by kernel_rfl, by kernel_rfl⟩
instance : TStruct Tryd.prog 55 [(0, 1), (1, 1), (2, 1)] := ⟨by kernel_rfl⟩
instance : TAgg Tryd.prog 56 3 [.string ⟨#[]⟩, .slice none 0 0, .int .i64 0] := ⟨fun w => by kernel_rfl, fun w => by kernel_rfl, fun w => by kernel_rfl⟩
instance : TFld Tryd.prog 56 0 0 9 := ⟨by kernel_rfl, by kernel_rfl⟩
instance : TFld Tryd.prog 56 1 1 54 := ⟨by kernel_rfl, by kernel_rfl⟩
instance : TFld Tryd.prog 56 2 2 3 := ⟨by kernel_rfl, by kernel_rfl⟩
instance : TStruct Tryd.prog 56 [(0, 1), (1, 1), (2, 1)] := ⟨by kernel_rfl⟩
instance : TOne Tryd.prog 57 (.nilFunc) := ⟨fun w => by kernel_rfl, fun w => by kernel_rfl, fun w => by kernel_rfl, rfl⟩
instance : TOne Tryd.prog 58 (.nilFunc) := ⟨fun w => by kernel_rfl, fun w => by kernel_rfl, fun w => by kernel_rfl, rfl⟩
instance : TOne Tryd.prog 59 (.nilFunc) := ⟨fun w => by kernel_rfl, fun w => by kernel_rfl, fun w => by kernel_rfl, rfl⟩
instance : TOne Tryd.prog 60 (.nilFunc) := ⟨fun w => by kernel_rfl, fun w => by kernel_rfl, fun w => by kernel_rfl, rfl⟩
instance : TOne Tryd.prog 61 (.nilFunc) := ⟨fun w => by kernel_rfl, fun w => by kernel_rfl, fun w => by kernel_rfl, rfl⟩
instance : TOne Tryd.prog 62 (.nilFunc) := ⟨fun w => by kernel_rfl, fun w => by kernel_rfl, fun w => by kernel_rfl, rfl⟩
instance : TOne Tryd.prog 63 (.nilFunc) := ⟨fun w => by kernel_rfl, fun w => by kernel_rfl, fun w => by kernel_rfl, rfl⟩
instance : TOne Tryd.prog 64 (.int .u64 0) := ⟨fun w => by kernel_rfl, fun w => by kernel_rfl, fun w => by kernel_rfl, rfl⟩
instance : TOne Tryd.prog 65 (.nilFunc) := ⟨fun w => by kernel_rfl, fun w => by kernel_rfl, fun w => by kernel_rfl, rfl⟩
instance : TOne Tryd.prog 66 (.nilFunc) := ⟨fun w => by kernel_rfl, fun w => by kernel_rfl, fun w => by kernel_rfl, rfl⟩
instance : TOne Tryd.prog 67 (.nilFunc) := ⟨fun w => by kernel_rfl, fun w => by kernel_rfl, fun w => by kernel_rfl, rfl⟩
instance : TOne Tryd.prog 68 (.nilFunc) := ⟨fun w => by kernel_rfl, fun w => by kernel_rfl, fun w => by kernel_rfl, rfl⟩
instance : TOne Tryd.prog 69 (.nilFunc) := ⟨fun w => by kernel_rfl, fun w => by kernel_rfl, fun w => by kernel_rfl, rfl⟩
instance : TOne Tryd.prog 70 (.nilFunc) := ⟨fun w => by kernel_rfl, fun w => by kernel_rfl, fun w => by kernel_rfl, rfl⟩
instance : TOne Tryd.prog 71 (.map none) := ⟨fun w => by kernel_rfl, fun w => by kernel_rfl, fun w => by kernel_rfl, rfl⟩
instance : TOne Tryd.prog 72 (.nilFunc) := ⟨fun w => by kernel_rfl, fun w => by kernel_rfl, fun w => by kernel_rfl, rfl⟩
instance : TOne Tryd.prog 73 (.nilFunc) := ⟨fun w => by kernel_rfl, fun w => by kernel_rfl, fun w => by kernel_rfl, rfl⟩
instance : TOne Tryd.prog 74 (.nilFunc) := ⟨fun w => by kernel_rfl, fun w => by kernel_rfl, fun w => by kernel_rfl, rfl⟩
instance : TOne Tryd.prog 75 (.nilFunc) := ⟨fun w => by kernel_rfl, fun w => by kernel_rfl, fun w => by kernel_rfl, rfl⟩
instance : TOne Tryd.prog 76 (.nilFunc) := ⟨fun w => by kernel_rfl, fun w => by kernel_rfl, fun w => by kernel_rfl, rfl⟩
instance : TOne Tryd.prog 80 (.nilFunc) := ⟨fun w => by kernel_rfl, fun w => by kernel_rfl, fun w => by kernel_rfl, rfl⟩
instance : TOne Tryd.prog 81 (.nilFunc) := ⟨fun w => by kernel_rfl, fun w => by kernel_rfl, fun w => by kernel_rfl, rfl⟩
instance : TOne Tryd.prog 82 (.nilFunc) := ⟨fun w => by kernel_rfl, fun w => by kernel_rfl, fun w => by kernel_rfl, rfl⟩
instance : TOne Tryd.prog 83 (.nilFunc) := ⟨fun w => by kernel_rfl, fun w => by kernel_rfl, fun w => by kernel_rfl, rfl⟩
instance : TOne Tryd.prog 84 (.int .i64 0) := ⟨fun w => by kernel_rfl, fun w => by kernel_rfl, fun w => by kernel_rfl, rfl⟩
instance : TOne Tryd.prog 86 (.nilFunc) := ⟨fun w => by kernel_rfl, fun w => by kernel_rfl, fun w => by kernel_rfl, rfl⟩
instance : TOne Tryd.prog 87 (.nilFunc) := ⟨fun w => by kernel_rfl, fun w => by kernel_rfl, fun w => by kernel_rfl, rfl⟩
instance : TOne Tryd.prog 88 (.nilFunc) := ⟨fun w => by kernel_rfl, fun w => by kernel_rfl, fun w => by kernel_rfl, rfl⟩
instance : TOne Tryd.prog 89 (.nilFunc) := ⟨fun w => by kernel_rfl, fun w => by kernel_rfl, fun w => by kernel_rfl, rfl⟩
instance : TOne Tryd.prog 91 (.nilFunc) := ⟨fun w => by kernel_rfl, fun w => by kernel_rfl, fun w => by kernel_rfl, rfl⟩
instance : TOne Tryd.prog 92 (.nilFunc) := ⟨fun w => by kernel_rfl, fun w => by kernel_rfl, fun w => by kernel_rfl, rfl⟩
instance : TOne Tryd.prog 93 (.int .u32 0) := ⟨fun w => by kernel_rfl, fun w => by kernel_rfl, fun w => by kernel_rfl, rfl⟩
instance : TOne Tryd.prog 94 (.nilFunc) := ⟨fun w => by kernel_rfl, fun w => by kernel_rfl, fun w => by kernel_rfl, rfl⟩
instance : TOne Tryd.prog 95 (.int .u64 0) := ⟨fun w => by kernel_rfl, fun w => by kernel_rfl, fun w => by kernel_rfl, rfl⟩
instance : TOne Tryd.prog 96 (.nilFunc) := ⟨fun w => by kernel_rfl, fun w => by kernel_rfl, fun w => by kernel_rfl, rfl⟩
instance : TOne Tryd.prog 97 (.nilFunc) := ⟨fun w => by kernel_rfl, fun w => by kernel_rfl, fun w => by kernel_rfl, rfl⟩
instance : TOne Tryd.prog 98 (.nilFunc) := ⟨fun w => by kernel_rfl, fun w => by kernel_rfl, fun w => by kernel_rfl, rfl⟩
instance : TOne Tryd.prog 100 (.nilFunc) := ⟨fun w => by kernel_rfl, fun w => by kernel_rfl, fun w => by kernel_rfl, rfl⟩
instance : TOne Tryd.prog 101 (.nilFunc) := ⟨fun w => by kernel_rfl, fun w => by kernel_rfl, fun w => by kernel_rfl, rfl⟩
instance : TOne Tryd.prog 102 (.nilFunc) := ⟨fun w => by kernel_rfl, fun w => by kernel_rfl, fun w => by kernel_rfl, rfl⟩
instance : TOne Tryd.prog 103 (.nilFunc) := ⟨fun w => by kernel_rfl, fun w => by kernel_rfl, fun w => by kernel_rfl, rfl⟩
instance : TOne Tryd.prog 104 (.pointer none) := ⟨fun w => by kernel_rfl, fun w => by kernel_rfl, fun w => by kernel_rfl, rfl⟩
instance : TOne Tryd.prog 105 (.nilFunc) := ⟨fun w => by kernel_rfl, fun w => by kernel_rfl, fun w => by kernel_rfl, rfl⟩
instance : TOne Tryd.prog 106 (.nilFunc) := ⟨fun w => by kernel_rfl, fun w => by kernel_rfl, fun w => by kernel_rfl, rfl⟩
instance : TOne Tryd.prog 107 (.int .u64 0) := ⟨fun w => by kernel_rfl, fun w => by kernel_rfl, fun w => by kernel_rfl, rfl⟩
instance : TOne Tryd.prog 108 (.nilFunc) := ⟨fun w => by kernel_rfl, fun w => by kernel_rfl, fun w => by kernel_rfl, rfl⟩
instance : TOne Tryd.prog 109 (.nilFunc) := ⟨fun w => by kernel_rfl, fun w => by kernel_rfl, fun w => by kernel_rfl, rfl⟩
instance : TOne Tryd.prog 110 (.nilFunc) := ⟨fun w => by kernel_rfl, fun w => by kernel_rfl, fun w => by kernel_rfl, rfl⟩
instance : TOne Tryd.prog 111 (.pointer none) := ⟨fun w => by kernel_rfl, fun w => by kernel_rfl, fun w => by kernel_rfl, rfl⟩
instance : TOne Tryd.prog 112 (.nilFunc) := ⟨fun w => by kernel_rfl, fun w => by kernel_rfl, fun w => by kernel_rfl, rfl⟩
instance : TOne Tryd.prog 113 (.nilFunc) := ⟨fun w => by kernel_rfl, fun w => by kernel_rfl, fun w => by kernel_rfl, rfl⟩
instance : TOne Tryd.prog 114 (.nilFunc) := ⟨fun w => by kernel_rfl, fun w => by kernel_rfl, fun w => by kernel_rfl, rfl⟩
instance : TAgg Tryd.prog 115 24 [.int .u8 0, .int .u8 0, .int .u8 0, .int .u8 0, .int .u8 0, .int .u8 0, .int .u8 0, .int .u8 0, .int .u8 0, .int .u8 0, .int .u8 0, .int .u8 0, .int .u8 0, .int .u8 0, .int .u8 0, .int .u8 0, .int .u8 0, .int .u8 0, .int .u8 0, .int .u8 0, .int .u8 0, .int .u8 0, .int .u8 0, .int .u8 0] := ⟨fun w => by kernel_rfl, fun w => by kernel_rfl, fun w => by kernel_rfl⟩
instance : TOne Tryd.prog 116 (.nilFunc) := ⟨fun w => by kernel_rfl, fun w => by kernel_rfl, fun w => by kernel_rfl, rfl⟩
instance : TOne Tryd.prog 117 (.slice none 0 0) := ⟨fun w => by kernel_rfl, fun w => by kernel_rfl, fun w => by kernel_rfl, rfl⟩
instance : TSlice Tryd.prog 117 5 1 1 (.int .u8 0) := ⟨⟨by kernel_rfl, by kernel_rfl, rfl, by decide⟩⟩
instance : TOne Tryd.prog 119 (.nilFunc) := ⟨fun w => by kernel_rfl, fun w => by kernel_rfl, fun w => by kernel_rfl, rfl⟩
instance : TOne Tryd.prog 120 (.pointer none) := ⟨fun w => by kernel_rfl, fun w => by kernel_rfl, fun w => by kernel_rfl, rfl⟩
instance : TOne Tryd.prog 122 (.nilFunc) := ⟨fun w => by kernel_rfl, fun w => by kernel_rfl, fun w => by kernel_rfl, rfl⟩
instance : TOne Tryd.prog 123 (.nilFunc) := ⟨fun w => by kernel_rfl, fun w => by kernel_rfl, fun w => by kernel_rfl, rfl⟩
instance : TOne Tryd.prog 124 (.nilFunc) := ⟨fun w => by kernel_rfl, fun w => by kernel_rfl, fun w => by kernel_rfl, rfl⟩
instance : TOne Tryd.prog 125 (.nilFunc) := ⟨fun w => by kernel_rfl, fun w => by kernel_rfl, fun w => by kernel_rfl, rfl⟩
instance : TAgg Tryd.prog 126 20 [.int .u64 0, .int .u64 0, .int .u64 0, .int .u64 0, .int .u64 0, .int .u64 0, .int .u64 0, .int .u64 0, .int .u64 0, .int .u64 0, .int .u64 0, .int .u64 0, .int .u64 0, .int .u64 0, .int .u64 0, .int .u64 0, .int .u64 0, .int .u64 0, .int .u64 0, .int .u64 0] := ⟨fun w => by kernel_rfl, fun w => by kernel_rfl, fun w => by kernel_rfl⟩
instance : TAgg Tryd.prog 127 65 [.int .u8 0, .int .u8 0, .int .u8 0, .int .u8 0, .int .u8 0, .int .u8 0, .int .u8 0, .int .u8 0, .int .u8 0, .int .u8 0, .int .u8 0, .int .u8 0, .int .u8 0, .int .u8 0, .int .u8 0, .int .u8 0, .int .u8 0, .int .u8 0, .int .u8 0, .int .u8 0, .int .u8 0, .int .u8 0, .int .u8 0, .int .u8 0, .int .u8 0, .int .u8 0, .int .u8 0, .int .u8 0, .int .u8 0, .int .u8 0, .int .u8 0, .int .u8 0, .int .u8 0, .int .u8 0, .int .u8 0, .int .u8 0, .int .u8 0, .int .u8 0, .int .u8 0, .int .u8 0, .int .u8 0, .int .u8 0, .int .u8 0, .int .u8 0, .int .u8 0, .int .u8 0, .int .u8 0, .int .u8 0, .int .u8 0, .int .u8 0, .int .u8 0, .int .u8 0, .int .u8 0, .int .u8 0, .int .u8 0, .int .u8 0, .int .u8 0, .int .u8 0, .int .u8 0, .int .u8 0, .int .u8 0, .int .u8 0, .int .u8 0, .int .u8 0, .int .u8 0] := ⟨fun w => by kernel_rfl, fun w => by kernel_rfl, fun w => by kernel_rfl⟩
instance : TAgg Tryd.prog 128 32 [.int .u8 0, .int .u8 0, .int .u8 0, .int .u8 0, .int .u8 0, .int .u8 0, .int .u8 0, .int .u8 0, .int .u8 0, .int .u8 0, .int .u8 0, .int .u8 0, .int .u8 0, .int .u8 0, .int .u8 0, .int .u8 0, .int .u8 0, .int .u8 0, .int .u8 0, .int .u8 0, .int .u8 0, .int .u8 0, .int .u8 0, .int .u8 0, .int .u8 0, .int .u8 0, .int .u8 0, .int .u8 0, .int .u8 0, .int .u8 0, .int .u8 0, .int .u8 0] := ⟨fun w => by kernel_rfl, fun w => by kernel_rfl, fun w => by kernel_rfl⟩
instance : TAgg Tryd.prog 129 64 [.int .u8 0, .int .u8 0, .int .u8 0, .int .u8 0, .int .u8 0, .int .u8 0, .int .u8 0, .int .u8 0, .int .u8 0, .int .u8 0, .int .u8 0, .int .u8 0, .int .u8 0, .int .u8 0, .int .u8 0, .int .u8 0, .int .u8 0, .int .u8 0, .int .u8 0, .int .u8 0, .int .u8 0, .int .u8 0, .int .u8 0, .int .u8 0, .int .u8 0, .int .u8 0, .int .u8 0, .int .u8 0, .int .u8 0, .int .u8 0, .int .u8 0, .int .u8 0, .int .u8 0, .int .u8 0, .int .u8 0, .int .u8 0, .int .u8 0, .int .u8 0, .int .u8 0, .int .u8 0, .int .u8 0, .int .u8 0, .int .u8 0, .int .u8 0, .int .u8 0, .int .u8 0, .int .u8 0, .int .u8 0, .int .u8 0, .int .u8 0, .int .u8 0, .int .u8 0, .int .u8 0, .int .u8 0, .int .u8 0, .int .u8 0, .int .u8 0, .int .u8 0, .int .u8 0, .int .u8 0, .int .u8 0, .int .u8 0, .int .u8 0, .int .u8 0] := ⟨fun w => by kernel_rfl, fun w => by kernel_rfl, fun w => by kernel_rfl⟩
instance : TOne Tryd.prog 130 (.nilFunc) := ⟨fun w => by kernel_rfl, fun w => by kernel_rfl, fun w => by kernel_rfl, rfl⟩
instance : TOne Tryd.prog 136 (.nilFunc) := ⟨fun w => by kernel_rfl, fun w => by kernel_rfl, fun w => by kernel_rfl, rfl⟩
instance : TOne Tryd.prog 140 (.pointer none) := ⟨fun w => by kernel_rfl, fun w => by kernel_rfl, fun w => by kernel_rfl, rfl⟩
end Go.Proofs.YtpknpbeiifjmgaaDoor
namespace Go.Proofs.YtpknpbeiifjmgaaDoor
open Go.RowKit
theorem contains_snoc (xs : List Int) (n : Int) (k : Nat) (h : k < xs.length) (h0 : hasI (xs.take k) n = false) (h1 : (xs[k] == n) = false) : hasI (xs.take (k + 1)) n = false := by
  rw [List.take_succ_eq_append_getElem h]
  unfold hasI at *
  simp only [List.contains_eq_mem, decide_eq_false_iff_not, List.mem_append, List.mem_singleton] at *
  intro hc
  rcases hc with hc | hc
  · exact h0 hc
  · rw [beq_eq_false_iff_ne] at h1; exact h1 hc.symm
theorem str_beq (a b : ByteArray) : (a.toList == b.toList) = true ↔ a = b := by
  rw [beq_iff_eq, ByteArray.toList_eq, ByteArray.toList_eq]
  exact ⟨fun h => Go.WideShapes.bytes_inj h, fun h => by rw [h]⟩
theorem str_bne (a b : ByteArray) : (a.toList == b.toList) = false ↔ a ≠ b := by
  rw [← Bool.not_eq_true, str_beq]
set_option maxHeartbeats 1000000 in
theorem place_any (v : Value) (xs : List ByteArray) (s : ByteArray) (w : World) (h : Strs w v xs) :
    Calls Tryd.prog 20 #[v, .string s] w fun e w' => e = .returned (.int .i64 (Lib.idxOfS xs s)) ∧ w = w' := by
  obtain ⟨a, cap, rfl, hl, hc⟩ := h.at
  have HC := Lib.hid hc; clear hc
  go_enter Tryd.func20, Tryd.ntmps20
  go_wp2
  go_loop [5] (fun i => ∃ k : Nat, k ≤ xs.length ∧ i = .int .i64 k ∧ Hid (∀ j, j < k → xs.getD j ByteArray.empty ≠ s)) (fun i => xs.length - (intOf i).toNat)
  case atStart => exact ⟨0, Nat.zero_le _, rfl, fun j hj => absurd hj (by omega)⟩
  case round =>
    obtain ⟨k, hk, rfl, H⟩ := hrel
    by_cases hlt : k < xs.length
    · obtain ⟨hsz, b, off, rfl, hcell⟩ := HC.out k hlt
      have hx : xs.getD k ByteArray.empty = xs[k] := by simp [hlt]
      have HX := Lib.hid hx; clear hx
      generalize xs[k] = x at *
      cases he : (x.toList == s.toList) with
      | true =>
        go_wp2
        go_ret
        refine ⟨ret_int ?_, rfl⟩
        have := Lib.idxOfS_hit xs xs.length k s hlt (Nat.le_refl _) (by rw [HX.out]; exact (str_beq x s).1 he) H.out
        rw [List.take_length] at this
        exact this.symm
      | false =>
        go_wp2
        go_round
        case rel =>
          refine ⟨k + 1, by omega, by go_num, fun j hj => ?_⟩
          rcases Nat.lt_or_ge j k with h1 | h1
          · exact H.out j h1
          · obtain rfl : j = k := by omega
            rw [HX.out]; exact (str_bne x s).1 he
        case measure => simp [intOf];omega
    · obtain rfl : k = xs.length := by omega
      go_wp2
      go_ret
      refine ⟨ret_int ?_, rfl⟩
      have := Lib.idxOfS_miss xs xs.length s H.out
      rw [List.take_length] at this
      exact this.symm
end Go.Proofs.YtpknpbeiifjmgaaDoor
namespace Go.Proofs.YtpknpbeiifjmgaaDoor
open Go.RowKit
theorem Sl.bound {w : World} {v : Value} {sz n : Nat} {f : Nat → Value} (h : Sl w v sz n f) : n ≤ 140737488355328 := h.len
theorem bool_eq {a b : Bool} (h : a = b) : Value.bool a = Value.bool b := by rw [h]
theorem int_eq {k : IntKind} {a b : Int} (h : a = b) : Value.int k a = Value.int k b := by rw [h]
theorem getD_lt {α : Type} (xs : List α) (k : Nat) (d : α) (h : k < xs.length) : xs.getD k d = xs[k] := by simp [h]
theorem getD_ge {α : Type} (xs : List α) (k : Nat) (d : α) (h : xs.length ≤ k) : xs.getD k d = d := by simp [List.getD_eq_getElem?_getD, List.getElem?_eq_none h]
theorem Sl.congr {w : World} {v : Value} {sz n : Nat} {f g : Nat → Value} (h : Sl w v sz n f) (e : ∀ j, j < n * sz → f j = g j) : Sl w v sz n g := by
  refine ⟨h.len, ?_, h.room⟩
  obtain ⟨a, cap, hv, hc⟩ := h.out
  refine ⟨a, cap, hv, ?_⟩
  rcases hc with h0 | ⟨b, off, ha, hc⟩
  · exact .inl h0
  · exact .inr ⟨b, off, ha, fun j hj => by rw [hc j hj, e j hj]⟩
theorem Ints.sl {w : World} {v : Value} {xs : List Int} (h : Ints w v xs) : Sl w v 1 xs.length (fun j => .int .i64 (xs.getD j 0)) := h
theorem Bools.sl {w : World} {v : Value} {xs : List Bool} (h : Bools w v xs) : Sl w v 1 xs.length (fun j => .bool (xs.getD j false)) := h
theorem Strs.sl {w : World} {v : Value} {xs : List ByteArray} (h : Strs w v xs) : Sl w v 1 xs.length (fun j => .string (xs.getD j ByteArray.empty)) := h.1
theorem Strs.le {w : World} {v : Value} {xs : List ByteArray} (h : Strs w v xs) (j : Nat) : (xs.getD j ByteArray.empty).size ≤ 140737488355328 := by
  by_cases hj : j < xs.length
  · rw [getD_lt _ _ _ hj]; exact h.2 _ (List.getElem_mem hj)
  · rw [getD_ge _ _ _ (by omega)]; exact Nat.zero_le _
theorem Ints.nil (w : World) : Ints w (.slice none 0 0) [] := ⟨by simp, ⟨_, _, rfl, .inl rfl⟩, fun a m c h => by simp only [Value.slice.injEq] at h;omega⟩
theorem Tabs.rows {w : World} {v : Value} {xs : List (List Int)} (h : Tabs w v xs) : ∃ fv : Nat → Value, Sl w v 1 xs.length fv ∧ ∀ j, Ints w (fv j) (xs.getD j []) := by
  obtain ⟨vs, h1, h2, h3⟩ := h
  refine ⟨fun j => if j < xs.length then vs.getD j undef else .slice none 0 0, h1.congr fun j hj => by rw [if_pos (by omega)], fun j => ?_⟩
  by_cases hj : j < xs.length
  · simp only [if_pos hj]; rw [getD_lt xs j [] hj]; exact h3 j hj
  · simp only [if_neg hj]; rw [getD_ge xs j [] (by omega)]; exact Ints.nil w
theorem hasI_hit (xs : List Int) (n : Int) (k : Nat) (h : k < xs.length) (e : xs.getD k 0 = n) : hasI xs n = true := by
  rw [getD_lt _ _ _ h] at e; subst e; simp [hasI]
theorem hasI_step (xs : List Int) (n : Int) (k : Nat) (h : k < xs.length) (h0 : hasI (xs.take k) n = false) (e : xs.getD k 0 ≠ n) : hasI (xs.take (k + 1)) n = false :=
  contains_snoc xs n k h h0 (by rw [getD_lt _ _ _ h] at e; simpa using e)
theorem hasI_end (xs : List Int) (n : Int) (k : Nat) (h : xs.length ≤ k) (h0 : hasI (xs.take k) n = false) : hasI xs n = false := by
  rwa [List.take_of_length_le h] at h0
set_option maxRecDepth 100000 in
set_option maxHeartbeats 4000000 in
theorem contains_int_sat (v : Value) (xs : List Int) (x : Int) (w : World) (h : Ints w v xs) : SatV Tryd.prog 6 [v, .int .i64 x] w (.bool (hasI xs x)) :=
  Sat.lib ⟨_, _, Tryd.func6, by kernel_rfl, rfl⟩ fun w1 hb => (contains_int v xs x w1 (h.below hb)).mono fun e w' ⟨h1, h2⟩ => ⟨_, [], h1, by rw [← h2]; exact Hp.refl w1, rfl, rfl⟩
set_option maxRecDepth 100000 in
set_option maxHeartbeats 4000000 in
theorem clone_int_sat (v : Value) (xs : List Int) (w : World) (h : Ints w v xs) (hb : xs.length ≤ 1000000) : Sat Tryd.prog 17 [v] w (fun u L => L = [irow u xs]) :=
  Sat.lib ⟨_, _, Tryd.func17, by kernel_rfl, rfl⟩ fun w1 hb' => (clone_int v xs w1 (h.below hb') hb).mono fun e w' ⟨u, h1, h2⟩ => ⟨u, _, h1, h2, rfl⟩
end Go.Proofs.YtpknpbeiifjmgaaDoor
namespace Go.Proofs.YtpknpbeiifjmgaaDoor
open Go.RowKit
theorem Pt1.below {w w' : World} {p v : Value} (h : Pt1 w p v) (hb : Below w.heap.size w w') : Pt1 w' p v := by
  obtain ⟨b, o, rfl, hc⟩ := h
  exact ⟨b, o, rfl, (hb.cell (World.block_lt_of_cell? w _ hc)).trans hc⟩
theorem below_on {w0 w w' : World} (h : Below w0.heap.size w0 w) (hb : Below w.heap.size w w') : Below w0.heap.size w0 w' := h.trans (hb.mono h.size)
theorem SatL.row {P : Program} {f : FuncId} {args : List Value} {w0 : World} {L : List Res} {R : Value → List Res → Prop} (h : SatL P f args w0 L R) :
    SatL P f args w0 L (fun u L' => R u L' ∧ ∀ e sz v n xs, Res.row e sz v n xs ∈ L' → (∃ a c, v = .slice a n c) ∧ (0 < n → ∃ g c, v = .slice (some ⟨g, 0, none⟩) n c)) :=
  ⟨h.enters, fun w hp => (h.calls w hp).mono fun e w' ⟨v, L', h1, h2, h3⟩ => ⟨v, L', h1, h2, h3, fun e sz v n xs hm => by
    have ho : w'.ownsRow w0.heap.size e sz v n xs := h2.ok _ hm
    rcases ho.2 with ⟨rfl, h0⟩ | ⟨g, cap, cur, rfl, _⟩
    · obtain rfl : n = 0 := by have := ho.1;omega
      exact ⟨⟨_, _, rfl⟩, fun h => absurd h (by omega)⟩
    · exact ⟨⟨_, _, rfl⟩, fun _ => ⟨g, cap, rfl⟩⟩⟩⟩
def anyN (p : Nat → Bool) (N : Nat) : Bool := (List.range N).any p
theorem anyN_hit {p : Nat → Bool} {N k : Nat} (h : k < N) (e : p k = true) : anyN p N = true := List.any_eq_true.2 ⟨k, List.mem_range.2 h, e⟩
theorem anyN_none {p : Nat → Bool} {N : Nat} (h : ∀ j, j < N → p j = false) : anyN p N = false := by
  rw [anyN, List.any_eq_false]
  intro x hx
  rw [h x (List.mem_range.1 hx)]; simp
def IdxR (p : Nat → Bool) (N : Nat) (u : Value) (L : List Res) : Prop := ∃ i : Int, u = .int .i64 i ∧ L = [] ∧ anyN p N = decide (0 ≤ i)
set_option maxRecDepth 100000 in
set_option maxHeartbeats 4000000 in
theorem indexF_int_sat (v : Value) (N : Nat) (e : Nat → Value) (p : Nat → Bool) (g : FuncId) (cs : Array Value) (w : World) (h : Sl w v 1 N e) (hf : ∀ k, k < N → ∀ w1, Below w.heap.size w w1 → SatV Tryd.prog g (e k :: cs.toList) w1 (.bool (p k))) :
    Sat Tryd.prog 74 [v, .func (.func g) #[] cs] w (IdxR p N) := by
  have hN := h.bound
  refine SatL.of 19 [4] Tryd.func74 (by kernel_rfl) (by kernel_rfl) rfl rfl rfl rfl ?_
  repeat' (first|(apply OK_seq)|(apply thenQ_n)|(apply OK_region)|(apply OKx_nilK)|(apply OK_block)|(apply blockQ_n)|(apply blockQ_s)|(apply thenQ_e)|(apply blockQ_e;exact rfl)|(apply thenQ_r)|(apply blockQ_r)|(apply OK_condT;exact rfl)|(apply OK_condF;exact rfl)|(apply OK_skip)|(apply OK_exit)|(apply OK_ret)|(apply OKx_move;(conv=>lhs;whnf)<;>exact rfl)|(apply OKx_assign;(conv=>lhs;whnf)<;>exact rfl)|(apply OKx_ldB;exact rfl;(first | exact at0|exact at1|exact at2|exact at3|exact at4|exact at5|exact at6|exact at7);exact rfl)|(apply OKx_ldR;(conv=>lhs;whnf)<;>exact rfl;(with_reducible assumption))|(apply OKx_ldI;exact rfl;(first | exact at0|exact at1|exact at2|exact at3|exact at4|exact at5|exact at6|exact at7);omega)|(apply OKx_len;exact rfl)|(apply OKx_lenR;(conv=>lhs;whnf)<;>exact rfl;(with_reducible assumption))|(apply OKx_lenR2;(conv=>lhs;whnf)<;>exact rfl;(with_reducible assumption))|(apply OKx_lenO;(conv=>lhs;whnf)<;>exact rfl;(first | exact at0|exact at1|exact at2|exact at3|exact at4|exact at5|exact at6|exact at7))|(apply OKx_lss;exact rfl;exact rfl;all_goals (intro _; try (exfalso;omega)))|(apply OKx_idxO;exact rfl;exact rfl;omega)|(apply OKx_idxR;(conv=>lhs;whnf)<;>exact rfl;(with_reducible assumption);exact rfl;omega;intro _ _)|(apply OKx_idxOz;exact rfl;exact rfl;omega;omega)|(apply OKx_idxRz;(conv=>lhs;whnf)<;>exact rfl;(with_reducible assumption);exact rfl;omega;omega;intro _ _)|(apply OKx_inc;exact rfl;exact rfl;omega)|(apply OKx_addN;exact rfl;exact rfl;omega)|(apply OKx_add;exact rfl;exact rfl;omega;omega))
  refine OK_loop1 8 [4, 5, 8, 9, 10, 11, 12, 13, 14, 15, 16, 17, 18] (fun m v L => ∃ k : Nat, k + m = N ∧ v = .int .i64 (k : Int) ∧ (∀ j, j < k → p j = false) ∧ L = []) N [] (Ent.refl _ _) ⟨0, by omega, rfl, fun j hj => absurd hj (by omega), rfl⟩ ?_
  rintro m v' L G ⟨k, hm, rfl, H, rfl⟩
  repeat' (first|(apply OK_seq)|(apply thenQ_n)|(apply OK_region)|(refine OKx_callB (f := g) rfl rfl rfl (fun w hp => hf k (by omega) w hp.below) ?_ ?_ <;> intro hq)|(apply OKx_nilK)|(apply OK_block)|(apply blockQ_n)|(apply blockQ_s)|(apply thenQ_e)|(apply blockQ_e;exact rfl)|(apply thenQ_r)|(apply blockQ_r)|(apply OK_condT;exact rfl)|(apply OK_condF;exact rfl)|(apply OK_skip)|(apply OK_exit)|(apply OK_ret)|(apply OKx_move;(conv=>lhs;whnf)<;>exact rfl)|(apply OKx_assign;(conv=>lhs;whnf)<;>exact rfl)|(apply OKx_ldB;exact rfl;(first | exact at0|exact at1|exact at2|exact at3|exact at4|exact at5|exact at6|exact at7);exact rfl)|(apply OKx_ldR;(conv=>lhs;whnf)<;>exact rfl;(with_reducible assumption))|(apply OKx_ldI;exact rfl;(first | exact at0|exact at1|exact at2|exact at3|exact at4|exact at5|exact at6|exact at7);omega)|(apply OKx_len;exact rfl)|(apply OKx_lenR;(conv=>lhs;whnf)<;>exact rfl;(with_reducible assumption))|(apply OKx_lenR2;(conv=>lhs;whnf)<;>exact rfl;(with_reducible assumption))|(apply OKx_lenO;(conv=>lhs;whnf)<;>exact rfl;(first | exact at0|exact at1|exact at2|exact at3|exact at4|exact at5|exact at6|exact at7))|(apply OKx_lss;exact rfl;exact rfl;all_goals (intro _; try (exfalso;omega)))|(apply OKx_idxO;exact rfl;exact rfl;omega)|(apply OKx_idxR;(conv=>lhs;whnf)<;>exact rfl;(with_reducible assumption);exact rfl;omega;intro _ _)|(apply OKx_idxOz;exact rfl;exact rfl;omega;omega)|(apply OKx_idxRz;(conv=>lhs;whnf)<;>exact rfl;(with_reducible assumption);exact rfl;omega;omega;intro _ _)|(apply OKx_inc;exact rfl;exact rfl;omega)|(apply OKx_addN;exact rfl;exact rfl;omega)|(apply OKx_add;exact rfl;exact rfl;omega;omega))
  · refine bodyQ_r1 (by ((conv=>lhs;whnf)<;>exact rfl)) ?_
    exact ⟨_, Ent.refl _ _, _, rfl, rfl, by rw [anyN_hit (by omega) hq, decide_eq_true (by omega)]⟩
  · refine ⟨by (repeat' (first | refine agree_upd rfl ?_ | exact agree_over | exact agree_refl _ _ | refine agree_over2 rfl ?_)), m - 1, _, by omega, Ent.refl _ _, ?_⟩
    refine ⟨k + 1, by omega, rfl, fun j hj => ?_, rfl⟩
    by_cases hjk : j < k
    · exact H j hjk
    · obtain rfl : j = k := by omega
      exact hq
  · refine bodyQ_r1 (by ((conv=>lhs;whnf)<;>exact rfl)) ?_
    exact ⟨_, Ent.refl _ _, _, rfl, rfl, by rw [anyN_none fun j hj => H j (by omega)]; rfl⟩
set_option maxRecDepth 100000 in
set_option maxHeartbeats 4000000 in
theorem containsF_int_sat (v : Value) (N : Nat) (e : Nat → Value) (p : Nat → Bool) (g : FuncId) (cs : Array Value) (w : World) (h : Sl w v 1 N e) (hf : ∀ k, k < N → ∀ w1, Below w.heap.size w w1 → SatV Tryd.prog g (e k :: cs.toList) w1 (.bool (p k))) :
    SatV Tryd.prog 44 [v, .func (.func g) #[] cs] w (.bool (anyN p N)) := by
  refine SatL.of 9 [4] Tryd.func44 (by kernel_rfl) (by kernel_rfl) rfl rfl rfl rfl ?_
  repeat' (first|(apply OK_seq)|(apply thenQ_n)|(apply OK_region)|(apply OKx_gc 74;exact rfl; refine OKx_call (f := 74) rfl rfl (fun w hp => indexF_int_sat v N e p g cs w (h.below hp.below) (fun k hk w1 hb => hf k hk w1 (below_on hp.below hb))) ?_; rintro _ _ ⟨i, rfl, rfl, hi⟩)|(apply OKx_nilK)|(apply OK_block)|(apply blockQ_n)|(apply blockQ_s)|(apply thenQ_e)|(apply blockQ_e;exact rfl)|(apply thenQ_r)|(apply blockQ_r)|(apply OK_condT;exact rfl)|(apply OK_condF;exact rfl)|(apply OK_skip)|(apply OK_exit)|(apply OK_ret)|(apply OKx_move;(conv=>lhs;whnf)<;>exact rfl)|(apply OKx_assign;(conv=>lhs;whnf)<;>exact rfl)|(apply OKx_geq;exact rfl;exact rfl;all_goals (intro _; try (exfalso;omega))))
  all_goals
    refine bodyQ_r1 (by ((conv=>lhs;whnf)<;>exact rfl)) ?_
    exact ⟨_, Ent.refl _ _, bool_eq (by rw [hi]; simp;omega), rfl⟩
end Go.Proofs.YtpknpbeiifjmgaaDoor
namespace Go.Proofs.YtpknpbeiifjmgaaDoor
def srtK (xs : List Int) (k : Nat) : List Int := ((List.range k).filter (fun n : Nat => hasI xs (n : Int))).map (fun n : Nat => (n : Int))
theorem srtK_step (xs : List Int) (k : Nat) : srtK xs (k + 1) = srtK xs k ++ if hasI xs (k : Int) = true then [(k : Int)] else [] := by
  unfold srtK
  rw [List.range_succ, List.filter_append, List.map_append]
  congr 1
  by_cases h : hasI xs (k : Int) = true
  · simp [h]
  · simp [h]
theorem srtK_len (xs : List Int) (k : Nat) : (srtK xs k).length ≤ k := by
  unfold srtK
  rw [List.length_map]
  exact Nat.le_trans (List.length_filter_le _ _) (by simp)
theorem srtK_asc (xs : List Int) (k : Nat) : (srtK xs k).Pairwise (· < ·) := by
  unfold srtK
  rw [List.pairwise_map]
  refine List.Pairwise.filter _ ?_
  exact List.pairwise_lt_range.imp (fun h => by omega)
theorem srtK_mem (xs : List Int) (k : Nat) (x : Int) : x ∈ srtK xs k ↔ x ∈ xs ∧ 0 ≤ x ∧ x < k := by
  unfold srtK
  simp only [List.mem_map, List.mem_filter, List.mem_range, hasI, List.contains_iff_mem]
  constructor
  · rintro ⟨n, ⟨h1, h2⟩, rfl⟩
    exact ⟨h2, by omega, by omega⟩
  · rintro ⟨h1, h2, h3⟩
    exact ⟨x.toNat, ⟨by omega, by rwa [Int.toNat_of_nonneg h2]⟩, Int.toNat_of_nonneg h2⟩
theorem asc_ext : ∀ (xs ys : List Int), xs.Pairwise (· < ·) → ys.Pairwise (· < ·) → (∀ x, x ∈ xs ↔ x ∈ ys) → xs = ys := by
  intro xs
  induction xs with
  | nil =>
    intro ys _ _ h
    cases ys with
    | nil => rfl
    | cons y ys => exact absurd ((h y).2 (by simp)) (by simp)
  | cons x xs ih =>
    intro ys hx hy h
    cases ys with
    | nil => exact absurd ((h x).1 (by simp)) (by simp)
    | cons y ys =>
      have hx' := List.pairwise_cons.1 hx
      have hy' := List.pairwise_cons.1 hy
      have hxy : x = y := by
        rcases List.mem_cons.1 ((h x).1 (by simp)) with e | e
        · exact e
        · rcases List.mem_cons.1 ((h y).2 (by simp)) with e2 | e2
          · exact e2.symm
          · have := hy'.1 x e
            have := hx'.1 y e2
            omega
      subst hxy
      congr 1
      refine ih ys hx'.2 hy'.2 fun z => ⟨fun hz => ?_, fun hz => ?_⟩
      · rcases List.mem_cons.1 ((h z).1 (by simp [hz])) with e | e
        · have := hx'.1 z hz;omega
        · exact e
      · rcases List.mem_cons.1 ((h z).2 (by simp [hz])) with e | e
        · have := hy'.1 z hz;omega
        · exact e
theorem asc_of_le (xs : List Int) (h : xs.Pairwise (· ≤ ·)) (hn : xs.Nodup) : xs.Pairwise (· < ·) :=
  (h.and hn).imp (fun ⟨a, b⟩ => by omega)
end Go.Proofs.YtpknpbeiifjmgaaDoor
