/-
  Part 14 of the proof: Gb, Sl07. No statement of the seat is proved here.
-/
import Derived.Test.YtdigdmnnjbndlaaGreatDoorMHTx3613
namespace Go.Proofs.YtdigdmnnjbndlaaGreatDoor
open Go.RowKit
theorem bOf_app7 (a b : List UInt8) : bOf a ++ bOf b = bOf (a ++ b) := by
  apply ByteArray.ext
  simp [bOf]
section
variable {P : Program} {n : Nat} {w0 : World} {K : Fm → List Res → Prop} {F : Fm} {L : List Res} {m : Md} {Lw : List Res} {ops : Array Oper} {rest : List Oper} {d : Option Nat} {ty : TypeId} {pos : String} {aft : Array Edge}
theorem OKx_sslLH {t : TypeId} [T : TStr P t] {x lo hi : Operand} {s r : List UInt8} {l h : Nat} {k k' : IntKind} (hx : rv n F x = .string (bOf s)) (hl : rv n F lo = .int k (l : Int)) (hh : rv n F hi = .int k' (h : Int)) (h1 : l ≤ h) (h2 : h ≤ s.length) (hr : (s.take h).drop l = r)
    (kk : OKx P n w0 m ops K rest (updo F d (.string (bOf r))) L) : OKx P n w0 m ops K (⟨d, .slice t x (some lo) (some hi) none, ty, pos, aft, none⟩ :: rest) F L :=
  OKx_still (fun w _ _ _ _ _ => by
    have h2' := run_sliceAt_string (P := P) (w := w) t (.string (bOf s)) (some (.int k (l : Int))) (some (.int k' (h : Int))) none T.und
    have h3 := run_slice_string_if (P := P) (w := w) t (bOf s) k k' (l : Int) (h : Int) T.und
    have e : (bOf s).extract l h = bOf r := by
      rw [Lib.extract_eq, data_bOf, ← hr, List.drop_take]
      rfl
    rw [if_pos ⟨by omega, by rw [bOf_size];omega⟩, if_pos ⟨by omega, by omega⟩, Int.toNat_natCast, Int.toNat_natCast, e] at h3
    rw [h3] at h2'
    simp [execOp, hx, hl, hh, h2', Result.andThen]) kk
end
end Go.Proofs.YtdigdmnnjbndlaaGreatDoor
namespace Go.Proofs.YtdigdmnnjbndlaaGreatDoor
open Go.RowKit
section
variable {P : Program} {n : Nat} {w0 : World} {K : Fm → List Res → Prop} {F : Fm} {L : List Res} {m : Md} {ops : Array Oper} {rest : List Oper} {d : Option Nat} {ty : TypeId} {pos : String} {aft : Array Edge}
theorem OKx_sslH7 {t : TypeId} [T : TStr P t] {x hi : Operand} {s r : List UInt8} {h : Nat} {k : IntKind} (hx : rv n F x = .string (bOf s)) (hl : rv n F hi = .int k (h : Int)) (h1 : h ≤ s.length) (hr : s.take h = r)
    (kk : OKx P n w0 m ops K rest (updo F d (.string (bOf r))) L) : OKx P n w0 m ops K (⟨d, .slice t x none (some hi) none, ty, pos, aft, none⟩ :: rest) F L :=
  OKx_still (fun w _ _ _ _ _ => by
    have h2 := run_sliceAt_string (P := P) (w := w) t (.string (bOf s)) none (some (.int k (h : Int))) none T.und
    have h3 := run_slice_string_h (P := P) w t (bOf s) T.und k (h : Int) (by omega) (by rw [bOf_size];omega)
    have e : (bOf s).extract 0 h = bOf r := by
      rw [Lib.extract_eq, data_bOf, List.drop_zero, Nat.sub_zero, hr]
      rfl
    rw [Int.toNat_natCast, e] at h3
    rw [h3] at h2
    simp [execOp, hx, hl, h2, Result.andThen]) kk
end
end Go.Proofs.YtdigdmnnjbndlaaGreatDoor
