/-
  Facts on the types of this translation, by program (gen_inst.py). No statement of the seat is proved here.
-/
import Derived.Test.YtpbohmddbfaiiaaFr
import Derived.Test.YtpbohmddbfaiiaaRows
namespace Go.Proofs.Ytpbohmddbfaiiaa
instance : TOne Try.prog 1 (.nilFunc) := ⟨fun w => by kernel_rfl, fun w => by kernel_rfl, fun w => by kernel_rfl, rfl⟩
instance : TOne Try.prog 2 (.int .i64 0) := ⟨fun w => by kernel_rfl, fun w => by kernel_rfl, fun w => by kernel_rfl, rfl⟩
instance : TOne Try.prog 3 (.int .i64 0) := ⟨fun w => by kernel_rfl, fun w => by kernel_rfl, fun w => by kernel_rfl, rfl⟩
instance : TOne Try.prog 4 (.bool false) := ⟨fun w => by kernel_rfl, fun w => by kernel_rfl, fun w => by kernel_rfl, rfl⟩
instance : TOne Try.prog 5 (.int .u8 0) := ⟨fun w => by kernel_rfl, fun w => by kernel_rfl, fun w => by kernel_rfl, rfl⟩
instance : TOne Try.prog 9 (.string ⟨#[]⟩) := ⟨fun w => by kernel_rfl, fun w => by kernel_rfl, fun w => by kernel_rfl, rfl⟩
instance : TStr Try.prog 9 := ⟨by kernel_rfl⟩
instance : TOne Try.prog 12 (.int .u64 0) := ⟨fun w => by kernel_rfl, fun w => by kernel_rfl, fun w => by kernel_rfl, rfl⟩
instance : TAgg Try.prog 13 2 [.string ⟨#[]⟩, .int .u64 0] := ⟨fun w => by kernel_rfl, fun w => by kernel_rfl, fun w => by kernel_rfl⟩
instance : TFld Try.prog 13 0 0 9 := ⟨by kernel_rfl, by kernel_rfl⟩
instance : TFld Try.prog 13 1 1 12 := ⟨by kernel_rfl, by kernel_rfl⟩
instance : TStruct Try.prog 13 [(0, 1), (1, 1)] := ⟨by kernel_rfl⟩
instance : TOne Try.prog 20 (.nilIface) := ⟨fun w => by kernel_rfl, fun w => by kernel_rfl, fun w => by kernel_rfl, rfl⟩
instance : TOne Try.prog 21 (.int .i32 0) := ⟨fun w => by kernel_rfl, fun w => by kernel_rfl, fun w => by kernel_rfl, rfl⟩
instance : TOne Try.prog 22 (.slice none 0 0) := ⟨fun w => by kernel_rfl, fun w => by kernel_rfl, fun w => by kernel_rfl, rfl⟩
instance : TSlice Try.prog 22 9 1 16 (.string ⟨#[]⟩) := ⟨⟨by kernel_rfl, by kernel_rfl, rfl, by decide⟩⟩
instance : TOne Try.prog 23 (.slice none 0 0) := ⟨fun w => by kernel_rfl, fun w => by kernel_rfl, fun w => by kernel_rfl, rfl⟩
instance : TSlice Try.prog 23 4 1 1 (.bool false) := ⟨⟨by kernel_rfl, by kernel_rfl, rfl, by decide⟩⟩
instance : TOne Try.prog 24 (.slice none 0 0) := ⟨fun w => by kernel_rfl, fun w => by kernel_rfl, fun w => by kernel_rfl, rfl⟩
instance : TSlice Try.prog 24 28 1 24 (.slice none 0 0) := ⟨⟨by kernel_rfl, by kernel_rfl, rfl, by decide⟩⟩
instance : TAgg Try.prog 25 3 [.slice none 0 0, .slice none 0 0, .slice none 0 0] := ⟨fun w => by kernel_rfl, fun w => by kernel_rfl, fun w => by kernel_rfl⟩
instance : TFld Try.prog 25 0 0 22 := ⟨by kernel_rfl, by kernel_rfl⟩
instance : TFld Try.prog 25 1 1 23 := ⟨by kernel_rfl, by kernel_rfl⟩
instance : TFld Try.prog 25 2 2 24 := ⟨by kernel_rfl, by kernel_rfl⟩
instance : TStruct Try.prog 25 [(0, 1), (1, 1), (2, 1)] := ⟨by kernel_rfl⟩
instance : TAgg Try.prog 26 3 [.slice none 0 0, .slice none 0 0, .slice none 0 0] := ⟨fun w => by kernel_rfl, fun w => by kernel_rfl, fun w => by kernel_rfl⟩
instance : TFld Try.prog 26 0 0 22 := ⟨by kernel_rfl, by kernel_rfl⟩
instance : TFld Try.prog 26 1 1 23 := ⟨by kernel_rfl, by kernel_rfl⟩
instance : TFld Try.prog 26 2 2 24 := ⟨by kernel_rfl, by kernel_rfl⟩
instance : TStruct Try.prog 26 [(0, 1), (1, 1), (2, 1)] := ⟨by kernel_rfl⟩
instance : TOne Try.prog 27 (.slice none 0 0) := ⟨fun w => by kernel_rfl, fun w => by kernel_rfl, fun w => by kernel_rfl, rfl⟩
instance : TSlice Try.prog 27 43 3 24 (.agg #[.int .i64 0, .int .i64 0, .int .i64 0]) := ⟨⟨by kernel_rfl, by kernel_rfl, rfl, by decide⟩⟩
instance : TOne Try.prog 28 (.slice none 0 0) := ⟨fun w => by kernel_rfl, fun w => by kernel_rfl, fun w => by kernel_rfl, rfl⟩
instance : TSlice Try.prog 28 3 1 8 (.int .i64 0) := ⟨⟨by kernel_rfl, by kernel_rfl, rfl, by decide⟩⟩
instance : TOne Try.prog 29 (.nilFunc) := ⟨fun w => by kernel_rfl, fun w => by kernel_rfl, fun w => by kernel_rfl, rfl⟩
instance : TOne Try.prog 30 (.nilFunc) := ⟨fun w => by kernel_rfl, fun w => by kernel_rfl, fun w => by kernel_rfl, rfl⟩
instance : TOne Try.prog 31 (.int .i64 0) := ⟨fun w => by kernel_rfl, fun w => by kernel_rfl, fun w => by kernel_rfl, rfl⟩
instance : TOne Try.prog 33 (.nilFunc) := ⟨fun w => by kernel_rfl, fun w => by kernel_rfl, fun w => by kernel_rfl, rfl⟩
instance : TOne Try.prog 35 (.nilFunc) := ⟨fun w => by kernel_rfl, fun w => by kernel_rfl, fun w => by kernel_rfl, rfl⟩
instance : TOne Try.prog 36 (.nilFunc) := ⟨fun w => by kernel_rfl, fun w => by kernel_rfl, fun w => by kernel_rfl, rfl⟩
instance : TOne Try.prog 37 (.nilFunc) := ⟨fun w => by kernel_rfl, fun w => by kernel_rfl, fun w => by kernel_rfl, rfl⟩
instance : TOne Try.prog 38 (.nilFunc) := ⟨fun w => by kernel_rfl, fun w => by kernel_rfl, fun w => by kernel_rfl, rfl⟩
instance : TOne Try.prog 39 (.nilFunc) := ⟨fun w => by kernel_rfl, fun w => by kernel_rfl, fun w => by kernel_rfl, rfl⟩
instance : TOne Try.prog 40 (.nilFunc) := ⟨fun w => by kernel_rfl, fun w => by kernel_rfl, fun w => by kernel_rfl, rfl⟩
instance : TOne Try.prog 41 (.nilFunc) := ⟨fun w => by kernel_rfl, fun w => by kernel_rfl, fun w => by kernel_rfl, rfl⟩
instance : TAgg Try.prog 42 3 [.int .i64 0, .int .i64 0, .int .i64 0] := ⟨fun w => by kernel_rfl, fun w => by kernel_rfl, fun w => by kernel_rfl⟩
instance : TFld Try.prog 42 0 0 3 := ⟨by kernel_rfl, by kernel_rfl⟩
instance : TFld Try.prog 42 1 1 3 := ⟨by kernel_rfl, by kernel_rfl⟩
instance : TFld Try.prog 42 2 2 3 := ⟨by kernel_rfl, by kernel_rfl⟩
instance : TStruct Try.prog 42 [(0, 1), (1, 1), (2, 1)] := ⟨by kernel_rfl⟩
instance : TAgg Try.prog 43 3 [.int .i64 0, .int .i64 0, .int .i64 0] := ⟨fun w => by kernel_rfl, fun w => by kernel_rfl, fun w => by kernel_rfl⟩
instance : TFld Try.prog 43 0 0 3 := ⟨by kernel_rfl, by kernel_rfl⟩
instance : TFld Try.prog 43 1 1 3 := ⟨by kernel_rfl, by kernel_rfl⟩
instance : TFld Try.prog 43 2 2 3 := ⟨by kernel_rfl, by kernel_rfl⟩
instance : TStruct Try.prog 43 [(0, 1), (1, 1), (2, 1)] := ⟨by kernel_rfl⟩
instance : TOne Try.prog 44 (.nilFunc) := ⟨fun w => by kernel_rfl, fun w => by kernel_rfl, fun w => by kernel_rfl, rfl⟩
instance : TOne Try.prog 45 (.nilFunc) := ⟨fun w => by kernel_rfl, fun w => by kernel_rfl, fun w => by kernel_rfl, rfl⟩
instance : TOne Try.prog 46 (.nilFunc) := ⟨fun w => by kernel_rfl, fun w => by kernel_rfl, fun w => by kernel_rfl, rfl⟩
instance : TOne Try.prog 47 (.nilFunc) := ⟨fun w => by kernel_rfl, fun w => by kernel_rfl, fun w => by kernel_rfl, rfl⟩
instance : TOne Try.prog 48 (.nilFunc) := ⟨fun w => by kernel_rfl, fun w => by kernel_rfl, fun w => by kernel_rfl, rfl⟩
instance : TOne Try.prog 50 (.nilFunc) := ⟨fun w => by kernel_rfl, fun w => by kernel_rfl, fun w => by kernel_rfl, rfl⟩
instance : TOne Try.prog 52 (.nilFunc) := ⟨fun w => by kernel_rfl, fun w => by kernel_rfl, fun w => by kernel_rfl, rfl⟩
instance : TOne Try.prog 53 (.nilFunc) := ⟨fun w => by kernel_rfl, fun w => by kernel_rfl, fun w => by kernel_rfl, rfl⟩
instance : TOne Try.prog 54 (.nilFunc) := ⟨fun w => by kernel_rfl, fun w => by kernel_rfl, fun w => by kernel_rfl, rfl⟩
instance : TOne Try.prog 55 (.nilFunc) := ⟨fun w => by kernel_rfl, fun w => by kernel_rfl, fun w => by kernel_rfl, rfl⟩
instance : TOne Try.prog 57 (.nilFunc) := ⟨fun w => by kernel_rfl, fun w => by kernel_rfl, fun w => by kernel_rfl, rfl⟩
instance : TOne Try.prog 59 (.nilFunc) := ⟨fun w => by kernel_rfl, fun w => by kernel_rfl, fun w => by kernel_rfl, rfl⟩
instance : TOne Try.prog 61 (.nilFunc) := ⟨fun w => by kernel_rfl, fun w => by kernel_rfl, fun w => by kernel_rfl, rfl⟩
instance : TOne Try.prog 62 (.nilFunc) := ⟨fun w => by kernel_rfl, fun w => by kernel_rfl, fun w => by kernel_rfl, rfl⟩
instance : TOne Try.prog 63 (.nilFunc) := ⟨fun w => by kernel_rfl, fun w => by kernel_rfl, fun w => by kernel_rfl, rfl⟩
instance : TOne Try.prog 64 (.map none) := ⟨fun w => by kernel_rfl, fun w => by kernel_rfl, fun w => by kernel_rfl, rfl⟩
instance : TOne Try.prog 65 (.nilFunc) := ⟨fun w => by kernel_rfl, fun w => by kernel_rfl, fun w => by kernel_rfl, rfl⟩
instance : TOne Try.prog 66 (.nilFunc) := ⟨fun w => by kernel_rfl, fun w => by kernel_rfl, fun w => by kernel_rfl, rfl⟩
instance : TOne Try.prog 68 (.nilFunc) := ⟨fun w => by kernel_rfl, fun w => by kernel_rfl, fun w => by kernel_rfl, rfl⟩
instance : TOne Try.prog 69 (.nilFunc) := ⟨fun w => by kernel_rfl, fun w => by kernel_rfl, fun w => by kernel_rfl, rfl⟩
instance : TOne Try.prog 70 (.nilFunc) := ⟨fun w => by kernel_rfl, fun w => by kernel_rfl, fun w => by kernel_rfl, rfl⟩
instance : TOne Try.prog 71 (.nilFunc) := ⟨fun w => by kernel_rfl, fun w => by kernel_rfl, fun w => by kernel_rfl, rfl⟩
instance : TOne Try.prog 72 (.map none) := ⟨fun w => by kernel_rfl, fun w => by kernel_rfl, fun w => by kernel_rfl, rfl⟩
instance : TOne Try.prog 73 (.nilFunc) := ⟨fun w => by kernel_rfl, fun w => by kernel_rfl, fun w => by kernel_rfl, rfl⟩
instance : TOne Try.prog 74 (.nilFunc) := ⟨fun w => by kernel_rfl, fun w => by kernel_rfl, fun w => by kernel_rfl, rfl⟩
instance : TOne Try.prog 75 (.nilFunc) := ⟨fun w => by kernel_rfl, fun w => by kernel_rfl, fun w => by kernel_rfl, rfl⟩
instance : TOne Try.prog 76 (.nilFunc) := ⟨fun w => by kernel_rfl, fun w => by kernel_rfl, fun w => by kernel_rfl, rfl⟩
instance : TOne Try.prog 77 (.nilFunc) := ⟨fun w => by kernel_rfl, fun w => by kernel_rfl, fun w => by kernel_rfl, rfl⟩
instance : TOne Try.prog 78 (.nilFunc) := ⟨fun w => by kernel_rfl, fun w => by kernel_rfl, fun w => by kernel_rfl, rfl⟩
instance : TOne Try.prog 79 (.nilFunc) := ⟨fun w => by kernel_rfl, fun w => by kernel_rfl, fun w => by kernel_rfl, rfl⟩
instance : TOne Try.prog 80 (.nilFunc) := ⟨fun w => by kernel_rfl, fun w => by kernel_rfl, fun w => by kernel_rfl, rfl⟩
instance : TOne Try.prog 81 (.nilFunc) := ⟨fun w => by kernel_rfl, fun w => by kernel_rfl, fun w => by kernel_rfl, rfl⟩
instance : TOne Try.prog 82 (.int .u64 0) := ⟨fun w => by kernel_rfl, fun w => by kernel_rfl, fun w => by kernel_rfl, rfl⟩
instance : TOne Try.prog 84 (.nilFunc) := ⟨fun w => by kernel_rfl, fun w => by kernel_rfl, fun w => by kernel_rfl, rfl⟩
instance : TOne Try.prog 85 (.nilFunc) := ⟨fun w => by kernel_rfl, fun w => by kernel_rfl, fun w => by kernel_rfl, rfl⟩
instance : TOne Try.prog 86 (.nilFunc) := ⟨fun w => by kernel_rfl, fun w => by kernel_rfl, fun w => by kernel_rfl, rfl⟩
instance : TOne Try.prog 87 (.nilFunc) := ⟨fun w => by kernel_rfl, fun w => by kernel_rfl, fun w => by kernel_rfl, rfl⟩
instance : TOne Try.prog 88 (.int .u32 0) := ⟨fun w => by kernel_rfl, fun w => by kernel_rfl, fun w => by kernel_rfl, rfl⟩
instance : TOne Try.prog 90 (.nilFunc) := ⟨fun w => by kernel_rfl, fun w => by kernel_rfl, fun w => by kernel_rfl, rfl⟩
instance : TOne Try.prog 91 (.int .u64 0) := ⟨fun w => by kernel_rfl, fun w => by kernel_rfl, fun w => by kernel_rfl, rfl⟩
instance : TOne Try.prog 93 (.nilFunc) := ⟨fun w => by kernel_rfl, fun w => by kernel_rfl, fun w => by kernel_rfl, rfl⟩
instance : TOne Try.prog 94 (.nilFunc) := ⟨fun w => by kernel_rfl, fun w => by kernel_rfl, fun w => by kernel_rfl, rfl⟩
instance : TOne Try.prog 95 (.nilFunc) := ⟨fun w => by kernel_rfl, fun w => by kernel_rfl, fun w => by kernel_rfl, rfl⟩
instance : TOne Try.prog 96 (.int .i64 0) := ⟨fun w => by kernel_rfl, fun w => by kernel_rfl, fun w => by kernel_rfl, rfl⟩
instance : TOne Try.prog 98 (.nilFunc) := ⟨fun w => by kernel_rfl, fun w => by kernel_rfl, fun w => by kernel_rfl, rfl⟩
instance : TOne Try.prog 99 (.nilFunc) := ⟨fun w => by kernel_rfl, fun w => by kernel_rfl, fun w => by kernel_rfl, rfl⟩
instance : TOne Try.prog 100 (.nilFunc) := ⟨fun w => by kernel_rfl, fun w => by kernel_rfl, fun w => by kernel_rfl, rfl⟩
instance : TOne Try.prog 101 (.nilFunc) := ⟨fun w => by kernel_rfl, fun w => by kernel_rfl, fun w => by kernel_rfl, rfl⟩
instance : TOne Try.prog 103 (.nilFunc) := ⟨fun w => by kernel_rfl, fun w => by kernel_rfl, fun w => by kernel_rfl, rfl⟩
instance : TOne Try.prog 104 (.nilFunc) := ⟨fun w => by kernel_rfl, fun w => by kernel_rfl, fun w => by kernel_rfl, rfl⟩
instance : TOne Try.prog 105 (.nilFunc) := ⟨fun w => by kernel_rfl, fun w => by kernel_rfl, fun w => by kernel_rfl, rfl⟩
instance : TOne Try.prog 106 (.nilFunc) := ⟨fun w => by kernel_rfl, fun w => by kernel_rfl, fun w => by kernel_rfl, rfl⟩
instance : TOne Try.prog 107 (.nilFunc) := ⟨fun w => by kernel_rfl, fun w => by kernel_rfl, fun w => by kernel_rfl, rfl⟩
instance : TOne Try.prog 108 (.int .u64 0) := ⟨fun w => by kernel_rfl, fun w => by kernel_rfl, fun w => by kernel_rfl, rfl⟩
instance : TOne Try.prog 109 (.nilFunc) := ⟨fun w => by kernel_rfl, fun w => by kernel_rfl, fun w => by kernel_rfl, rfl⟩
instance : TOne Try.prog 110 (.nilFunc) := ⟨fun w => by kernel_rfl, fun w => by kernel_rfl, fun w => by kernel_rfl, rfl⟩
instance : TOne Try.prog 111 (.nilFunc) := ⟨fun w => by kernel_rfl, fun w => by kernel_rfl, fun w => by kernel_rfl, rfl⟩
instance : TOne Try.prog 112 (.pointer none) := ⟨fun w => by kernel_rfl, fun w => by kernel_rfl, fun w => by kernel_rfl, rfl⟩
instance : TOne Try.prog 113 (.nilFunc) := ⟨fun w => by kernel_rfl, fun w => by kernel_rfl, fun w => by kernel_rfl, rfl⟩
instance : TOne Try.prog 114 (.nilFunc) := ⟨fun w => by kernel_rfl, fun w => by kernel_rfl, fun w => by kernel_rfl, rfl⟩
instance : TOne Try.prog 115 (.nilFunc) := ⟨fun w => by kernel_rfl, fun w => by kernel_rfl, fun w => by kernel_rfl, rfl⟩
instance : TOne Try.prog 116 (.pointer none) := ⟨fun w => by kernel_rfl, fun w => by kernel_rfl, fun w => by kernel_rfl, rfl⟩
instance : TOne Try.prog 118 (.nilFunc) := ⟨fun w => by kernel_rfl, fun w => by kernel_rfl, fun w => by kernel_rfl, rfl⟩
instance : TOne Try.prog 119 (.nilFunc) := ⟨fun w => by kernel_rfl, fun w => by kernel_rfl, fun w => by kernel_rfl, rfl⟩
instance : TOne Try.prog 125 (.nilFunc) := ⟨fun w => by kernel_rfl, fun w => by kernel_rfl, fun w => by kernel_rfl, rfl⟩
instance : TOne Try.prog 129 (.pointer none) := ⟨fun w => by kernel_rfl, fun w => by kernel_rfl, fun w => by kernel_rfl, rfl⟩
end Go.Proofs.Ytpbohmddbfaiiaa
