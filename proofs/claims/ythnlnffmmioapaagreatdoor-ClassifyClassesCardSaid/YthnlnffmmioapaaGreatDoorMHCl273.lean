/-
  Part 3 of the proof: Fr. No statement of the seat is proved here.
-/
import Derived.Test.YthnlnffmmioapaaGreatDoorMHCl272
namespace Go.Proofs.YthnlnffmmioapaaGreatDoor
open Go.RowKit
theorem wrapI (n : Int) (h : -9223372036854775808 ≤ n ∧ n ≤ 9223372036854775807) : IntKind.i64.wrap n = n := by rw [IntKind.wrap_i64];omega
theorem at0 {α : Type} {a : α} {l : List α} : (a :: l)[0]? = some a := rfl
theorem at1 {α : Type} {a b : α} {l : List α} : (a :: b :: l)[1]? = some b := rfl
theorem at2 {α : Type} {a b c : α} {l : List α} : (a :: b :: c :: l)[2]? = some c := rfl
theorem at3 {α : Type} {a b c d : α} {l : List α} : (a :: b :: c :: d :: l)[3]? = some d := rfl
theorem at4 {α : Type} {a b c d e : α} {l : List α} : (a :: b :: c :: d :: e :: l)[4]? = some e := rfl
theorem at5 {α : Type} {a b c d e f : α} {l : List α} : (a :: b :: c :: d :: e :: f :: l)[5]? = some f := rfl
theorem at6 {α : Type} {a b c d e f g : α} {l : List α} : (a :: b :: c :: d :: e :: f :: g :: l)[6]? = some g := rfl
theorem at7 {α : Type} {a b c d e f g h : α} {l : List α} : (a :: b :: c :: d :: e :: f :: g :: h :: l)[7]? = some h := rfl
inductive AtP {α : Type} : List α → Nat → α → Prop
  | a0 {a : α} {l : List α} : AtP (a :: l) 0 a
  | a1 {a b : α} {l : List α} : AtP (a :: b :: l) 1 b
  | a2 {a b c : α} {l : List α} : AtP (a :: b :: c :: l) 2 c
  | a3 {a b c d : α} {l : List α} : AtP (a :: b :: c :: d :: l) 3 d
  | a4 {a b c d e : α} {l : List α} : AtP (a :: b :: c :: d :: e :: l) 4 e
  | a5 {a b c d e f : α} {l : List α} : AtP (a :: b :: c :: d :: e :: f :: l) 5 f
  | a6 {a b c d e f g : α} {l : List α} : AtP (a :: b :: c :: d :: e :: f :: g :: l) 6 g
  | a7 {a b c d e f g h : α} {l : List α} : AtP (a :: b :: c :: d :: e :: f :: g :: h :: l) 7 h
theorem atP {α : Type} {l : List α} {i : Nat} {a : α} (h : AtP l i a) : l[i]? = some a := by cases h <;> rfl
class TOne (P : Program) (t : TypeId) (z : outParam Value) : Prop where
  agg : ∀ w, (isAgg t).run P w = .ok false w
  size : ∀ w, (sizeOf t).run P w = .ok 1 w
  zero : ∀ w, (zeroValue t).run P w = .ok z w
  cells : z.cells = #[z]
class TAgg (P : Program) (t : TypeId) (sz : outParam Nat) (zs : outParam (List Value)) : Prop where
  agg : ∀ w, (isAgg t).run P w = .ok true w
  size : ∀ w, (sizeOf t).run P w = .ok sz w
  zero : ∀ w, (zeroValue t).run P w = .ok (.agg zs.toArray) w
class TSlice (P : Program) (t : TypeId) (e sz bytes : outParam Nat) (z : outParam Value) : Prop where
  ty : SlTy P t e sz bytes z
def fldOf (P : Program) (s f : Nat) : Option (Nat × Nat) :=
  match P.underlying s with
  | some (.struct fs) => (fs[f]?).map fun fl => (fl.offset, fl.type)
  | _ => none
class TFld (P : Program) (s f : Nat) (off t : outParam Nat) : Prop where
  at0 : fldOf P s f = some (off, t)
  sz : (P.info? t).map (fun i => Nat.beq i.size 0) = some false
theorem TFld.at' {P : Program} {s f off t : Nat} (T : TFld P s f off t) : ∃ fs fl i, P.underlying s = some (.struct fs) ∧ fs[f]? = some fl ∧ fl.offset = off ∧ fl.type = t ∧ P.info? t = some i ∧ i.size ≠ 0 := by
  have h0 := T.at0
  unfold fldOf at h0
  split at h0
  · rename_i fs hu
    cases hf : fs[f]? with
    | none => rw [hf] at h0; cases h0
    | some fl =>
      rw [hf] at h0
      simp only [Option.map_some, Option.some.injEq, Prod.mk.injEq] at h0
      have h1 := T.sz
      cases hi : P.info? t with
      | none => rw [hi] at h1; cases h1
      | some i =>
        rw [hi] at h1
        simp only [Option.map_some, Option.some.injEq] at h1
        exact ⟨fs, fl, i, hu, hf, h0.1, h0.2, rfl, fun h => by rw [h] at h1; cases h1⟩
  · cases h0
class TStr (P : Program) (t : TypeId) : Prop where
  und : P.underlying t = some .string
theorem TSlice.und {P : Program} {t e sz bytes : Nat} {z : Value} (T : TSlice P t e sz bytes z) (w : World) : (underlying t).run P w = .ok (.slice e) w := by
  simp [underlying, program, Sem.run_bind, Sem.run, Result.andThen, T.ty.und, bind, Sem.bind]
theorem TSlice.size {P : Program} {t e sz bytes : Nat} {z : Value} (T : TSlice P t e sz bytes z) (w : World) : (sizeOf e).run P w = .ok sz w := by
  obtain ⟨i, hi, hz0, hz1, hz2⟩ := info_parts T.ty.inf
  simp [sizeOf, typeInfo, program, Sem.run_bind, Sem.run, hi, hz1, Result.andThen]
section
variable {P : Program} {n : Nat} {w0 : World} {Q : Exit → Fm → List Res → Prop} {K : Fm → List Res → Prop} {F : Fm} {L : List Res} {m : Md} {Lw : List Res} {ops : Array Oper} {rest : List Oper}
  {d : Option Nat} {ty : TypeId} {pos : String} {aft : Array Edge}
theorem St_move {x : Operand} {v : Value} (h : rv n F x = v) : Still P n w0 F L (.move x) ty v := fun w _ _ _ _ _ => by subst h; rfl
theorem St_assign {x : Operand} {v : Value} (h : rv n F x = v) : Still P n w0 F L (.assign x) ty v := fun w _ _ _ _ _ => by subst h; rfl
theorem OKx_move {x : Operand} {v : Value} (h : rv n F x = v) (k : OKx P n w0 m ops K rest (updo F d v) L) : OKx P n w0 m ops K (⟨d, .move x, ty, pos, aft, none⟩ :: rest) F L := OKx_still (St_move h) k
theorem OKx_assign {x : Operand} {v : Value} (h : rv n F x = v) (k : OKx P n w0 m ops K rest (updo F d v) L) : OKx P n w0 m ops K (⟨d, .assign x, ty, pos, aft, none⟩ :: rest) F L := OKx_still (St_assign h) k
theorem OKx_pickT {c x y : Operand} {v : Value} (hc : rv n F c = .bool true) (h : rv n F x = v) (k : OKx P n w0 m ops K rest (updo F d v) L) : OKx P n w0 m ops K (⟨d, .pick c x y, ty, pos, aft, none⟩ :: rest) F L :=
  OKx_still (fun w _ _ _ _ _ => by simp [execOp, hc, h, asBool]) k
theorem OKx_pickF {c x y : Operand} {v : Value} (hc : rv n F c = .bool false) (h : rv n F y = v) (k : OKx P n w0 m ops K rest (updo F d v) L) : OKx P n w0 m ops K (⟨d, .pick c x y, ty, pos, aft, none⟩ :: rest) F L :=
  OKx_still (fun w _ _ _ _ _ => by simp [execOp, hc, h, asBool]) k
theorem run_int (op : BinOp) (t : TypeId) (x y : Operand) (k : IntKind) (a b : Int) (hop : op ≠ .shl ∧ op ≠ .shr) (w : World) (ut : TypeId) (dd : Option Nat) (p : String) (af : Array Edge) (g : Option (Nat × Bool)) (ρ : Operand → Value) (hx : ρ x = .int k a) (hy : ρ y = .int k b)
    {v : Value} (hv : (match op with | .add | .sub | .mul => Op.intArith op k a b | .quo | .rem => Op.intDiv op k a b | .and | .or | .xor | .andNot => Op.intBits op k a b | _ => Op.intCmp op a b : Sem Value).run P w = .ok v w) :
    (execOp ρ ⟨dd, .binOp op t x y ut, ty, p, af, g⟩).run P w = .ok (.value v) w := by
  have h1 : (eqGuard op t x y (.int k a) (.int k b)).run P w = .ok () w := by
    unfold eqGuard
    cases op <;> rfl
  have h2 : (binOp op t (.int k a) (.int k b)).run P w = .ok v w := by
    rw [← hv]
    cases op <;> first | exact absurd rfl hop.1 | exact absurd rfl hop.2 | simp [binOp]
  simp [execOp, hx, hy, Sem.run_bind, h1, h2, Result.andThen]
theorem OKx_add {t ut : TypeId} {x y : Operand} {a b : Int} (hx : rv n F x = .int .i64 a) (hy : rv n F y = .int .i64 b) (h1 : -9223372036854775808 ≤ a + b) (h2 : a + b ≤ 9223372036854775807)
    (k : OKx P n w0 m ops K rest (updo F d (.int .i64 (a + b))) L) : OKx P n w0 m ops K (⟨d, .binOp .add t x y ut, ty, pos, aft, none⟩ :: rest) F L :=
  OKx_still (fun w _ _ _ _ _ => run_int .add t x y .i64 a b (by decide) w ut _ _ _ _ _ hx hy (by simp [Op.intArith, wrapI _ ⟨h1, h2⟩])) k
theorem OKx_addN {t ut : TypeId} {x y : Operand} {a b : Nat} (hx : rv n F x = .int .i64 (a : Int)) (hy : rv n F y = .int .i64 (b : Int)) (h2 : a + b ≤ 9223372036854775807)
    (k : OKx P n w0 m ops K rest (updo F d (.int .i64 ((a + b : Nat) : Int))) L) : OKx P n w0 m ops K (⟨d, .binOp .add t x y ut, ty, pos, aft, none⟩ :: rest) F L := by
  refine OKx_add hx hy (by omega) (by omega) ?_
  rw [← Int.natCast_add]; exact k
theorem OKx_inc {t ut : TypeId} {x y : Operand} {a : Nat} (hx : rv n F x = .int .i64 (a : Int)) (hy : rv n F y = .int .i64 1) (h2 : a + 1 ≤ 9223372036854775807)
    (k : OKx P n w0 m ops K rest (updo F d (.int .i64 ((a + 1 : Nat) : Int))) L) : OKx P n w0 m ops K (⟨d, .binOp .add t x y ut, ty, pos, aft, none⟩ :: rest) F L := by
  refine OKx_add hx hy (by omega) (by omega) ?_
  rw [show (a : Int) + 1 = ((a + 1 : Nat) : Int) by omega]; exact k
theorem OKx_sub {t ut : TypeId} {x y : Operand} {a b : Int} (hx : rv n F x = .int .i64 a) (hy : rv n F y = .int .i64 b) (h1 : -9223372036854775808 ≤ a - b) (h2 : a - b ≤ 9223372036854775807)
    (k : OKx P n w0 m ops K rest (updo F d (.int .i64 (a - b))) L) : OKx P n w0 m ops K (⟨d, .binOp .sub t x y ut, ty, pos, aft, none⟩ :: rest) F L :=
  OKx_still (fun w _ _ _ _ _ => run_int .sub t x y .i64 a b (by decide) w ut _ _ _ _ _ hx hy (by simp [Op.intArith, wrapI _ ⟨h1, h2⟩])) k
theorem OKx_dec {t ut : TypeId} {x y : Operand} {a : Nat} (hx : rv n F x = .int .i64 (a : Int)) (hy : rv n F y = .int .i64 1) (h1 : 1 ≤ a) (h2 : a ≤ 9223372036854775807)
    (k : OKx P n w0 m ops K rest (updo F d (.int .i64 ((a - 1 : Nat) : Int))) L) : OKx P n w0 m ops K (⟨d, .binOp .sub t x y ut, ty, pos, aft, none⟩ :: rest) F L := by
  refine OKx_sub hx hy (by omega) (by omega) ?_
  rw [show (a : Int) - 1 = ((a - 1 : Nat) : Int) by omega]; exact k
theorem OKx_lss {t ut : TypeId} {x y : Operand} {k : IntKind} {a b : Int} (hx : rv n F x = .int k a) (hy : rv n F y = .int k b)
    (kT : a < b → OKx P n w0 m ops K rest (updo F d (.bool true)) L) (kF : b ≤ a → OKx P n w0 m ops K rest (updo F d (.bool false)) L) : OKx P n w0 m ops K (⟨d, .binOp .lss t x y ut, ty, pos, aft, none⟩ :: rest) F L := by
  by_cases h : a < b
  · exact OKx_still (fun w _ _ _ _ _ => run_int .lss t x y k a b (by decide) w ut _ _ _ _ _ hx hy (by simp [Op.intCmp, h])) (kT h)
  · exact OKx_still (fun w _ _ _ _ _ => run_int .lss t x y k a b (by decide) w ut _ _ _ _ _ hx hy (by simp [Op.intCmp];omega)) (kF (by omega))
theorem OKx_leq {t ut : TypeId} {x y : Operand} {k : IntKind} {a b : Int} (hx : rv n F x = .int k a) (hy : rv n F y = .int k b)
    (kT : a ≤ b → OKx P n w0 m ops K rest (updo F d (.bool true)) L) (kF : b < a → OKx P n w0 m ops K rest (updo F d (.bool false)) L) : OKx P n w0 m ops K (⟨d, .binOp .leq t x y ut, ty, pos, aft, none⟩ :: rest) F L := by
  by_cases h : a ≤ b
  · exact OKx_still (fun w _ _ _ _ _ => run_int .leq t x y k a b (by decide) w ut _ _ _ _ _ hx hy (by simp [Op.intCmp, h])) (kT h)
  · exact OKx_still (fun w _ _ _ _ _ => run_int .leq t x y k a b (by decide) w ut _ _ _ _ _ hx hy (by simp [Op.intCmp];omega)) (kF (by omega))
theorem OKx_gtr {t ut : TypeId} {x y : Operand} {k : IntKind} {a b : Int} (hx : rv n F x = .int k a) (hy : rv n F y = .int k b)
    (kT : b < a → OKx P n w0 m ops K rest (updo F d (.bool true)) L) (kF : a ≤ b → OKx P n w0 m ops K rest (updo F d (.bool false)) L) : OKx P n w0 m ops K (⟨d, .binOp .gtr t x y ut, ty, pos, aft, none⟩ :: rest) F L := by
  by_cases h : b < a
  · exact OKx_still (fun w _ _ _ _ _ => run_int .gtr t x y k a b (by decide) w ut _ _ _ _ _ hx hy (by simp [Op.intCmp, h])) (kT h)
  · exact OKx_still (fun w _ _ _ _ _ => run_int .gtr t x y k a b (by decide) w ut _ _ _ _ _ hx hy (by simp [Op.intCmp];omega)) (kF (by omega))
theorem OKx_geq {t ut : TypeId} {x y : Operand} {k : IntKind} {a b : Int} (hx : rv n F x = .int k a) (hy : rv n F y = .int k b)
    (kT : b ≤ a → OKx P n w0 m ops K rest (updo F d (.bool true)) L) (kF : a < b → OKx P n w0 m ops K rest (updo F d (.bool false)) L) : OKx P n w0 m ops K (⟨d, .binOp .geq t x y ut, ty, pos, aft, none⟩ :: rest) F L := by
  by_cases h : b ≤ a
  · exact OKx_still (fun w _ _ _ _ _ => run_int .geq t x y k a b (by decide) w ut _ _ _ _ _ hx hy (by simp [Op.intCmp, h])) (kT h)
  · exact OKx_still (fun w _ _ _ _ _ => run_int .geq t x y k a b (by decide) w ut _ _ _ _ _ hx hy (by simp [Op.intCmp];omega)) (kF (by omega))
theorem OKx_eql {t ut : TypeId} {x y : Operand} {k : IntKind} {a b : Int} (hx : rv n F x = .int k a) (hy : rv n F y = .int k b)
    (kT : a = b → OKx P n w0 m ops K rest (updo F d (.bool true)) L) (kF : a ≠ b → OKx P n w0 m ops K rest (updo F d (.bool false)) L) : OKx P n w0 m ops K (⟨d, .binOp .eql t x y ut, ty, pos, aft, none⟩ :: rest) F L := by
  by_cases h : a = b
  · exact OKx_still (fun w _ _ _ _ _ => run_int .eql t x y k a b (by decide) w ut _ _ _ _ _ hx hy (by simp [Op.intCmp, h])) (kT h)
  · exact OKx_still (fun w _ _ _ _ _ => run_int .eql t x y k a b (by decide) w ut _ _ _ _ _ hx hy (by simp [Op.intCmp, h])) (kF h)
theorem OKx_neq {t ut : TypeId} {x y : Operand} {k : IntKind} {a b : Int} (hx : rv n F x = .int k a) (hy : rv n F y = .int k b)
    (kT : a ≠ b → OKx P n w0 m ops K rest (updo F d (.bool true)) L) (kF : a = b → OKx P n w0 m ops K rest (updo F d (.bool false)) L) : OKx P n w0 m ops K (⟨d, .binOp .neq t x y ut, ty, pos, aft, none⟩ :: rest) F L := by
  by_cases h : a = b
  · exact OKx_still (fun w _ _ _ _ _ => run_int .neq t x y k a b (by decide) w ut _ _ _ _ _ hx hy (by simp [Op.intCmp, h])) (kF h)
  · exact OKx_still (fun w _ _ _ _ _ => run_int .neq t x y k a b (by decide) w ut _ _ _ _ _ hx hy (by simp [Op.intCmp, h])) (kT h)
theorem run_str (op : BinOp) (t : TypeId) (x y : Operand) (a b : ByteArray) (hop : op ≠ .shl ∧ op ≠ .shr) (w : World) (ut : TypeId) (dd : Option Nat) (p : String) (af : Array Edge) (g : Option (Nat × Bool)) (ρ : Operand → Value) (hx : ρ x = .string a) (hy : ρ y = .string b)
    {v : Value} (hv : (Op.stringOp op a b).run P w = .ok v w) :
    (execOp ρ ⟨dd, .binOp op t x y ut, ty, p, af, g⟩).run P w = .ok (.value v) w := by
  have h1 : (eqGuard op t x y (.string a) (.string b)).run P w = .ok () w := by
    unfold eqGuard
    cases op <;> rfl
  have h2 : (binOp op t (.string a) (.string b)).run P w = .ok v w := by
    rw [← hv]
    cases op <;> first | exact absurd rfl hop.1 | exact absurd rfl hop.2 | simp [binOp]
  simp [execOp, hx, hy, Sem.run_bind, h1, h2, Result.andThen]
theorem bytes_beq (a b : ByteArray) : (a.toList == b.toList) = true ↔ a = b := by
  rw [beq_iff_eq, ByteArray.toList_eq, ByteArray.toList_eq]
  exact ⟨fun h => Go.WideShapes.bytes_inj h, fun h => by rw [h]⟩
theorem bytes_bne (a b : ByteArray) (h : a ≠ b) : (a.toList == b.toList) = false := by
  cases he : (a.toList == b.toList) with
  | false => rfl
  | true => exact absurd ((bytes_beq a b).1 he) h
theorem OKx_seql {t ut : TypeId} {x y : Operand} {a b : ByteArray} (hx : rv n F x = .string a) (hy : rv n F y = .string b)
    (kT : a = b → OKx P n w0 m ops K rest (updo F d (.bool true)) L) (kF : a ≠ b → OKx P n w0 m ops K rest (updo F d (.bool false)) L) : OKx P n w0 m ops K (⟨d, .binOp .eql t x y ut, ty, pos, aft, none⟩ :: rest) F L := by
  by_cases h : a = b
  · exact OKx_still (fun w _ _ _ _ _ => run_str .eql t x y a b (by decide) w ut _ _ _ _ _ hx hy (by simp [Op.stringOp, h])) (kT h)
  · exact OKx_still (fun w _ _ _ _ _ => run_str .eql t x y a b (by decide) w ut _ _ _ _ _ hx hy (by simp [Op.stringOp, bytes_bne a b h])) (kF h)
theorem OKx_sneq {t ut : TypeId} {x y : Operand} {a b : ByteArray} (hx : rv n F x = .string a) (hy : rv n F y = .string b)
    (kT : a ≠ b → OKx P n w0 m ops K rest (updo F d (.bool true)) L) (kF : a = b → OKx P n w0 m ops K rest (updo F d (.bool false)) L) : OKx P n w0 m ops K (⟨d, .binOp .neq t x y ut, ty, pos, aft, none⟩ :: rest) F L := by
  by_cases h : a = b
  · exact OKx_still (fun w _ _ _ _ _ => run_str .neq t x y a b (by decide) w ut _ _ _ _ _ hx hy (by simp [Op.stringOp, h])) (kF h)
  · exact OKx_still (fun w _ _ _ _ _ => run_str .neq t x y a b (by decide) w ut _ _ _ _ _ hx hy (by simp [Op.stringOp, bytes_bne a b h])) (kT h)
theorem OKx_sadd {t ut : TypeId} {x y : Operand} {a b : ByteArray} (hx : rv n F x = .string a) (hy : rv n F y = .string b) (hl : a.size + b.size ≤ 9223372036854775807)
    (k : OKx P n w0 m ops K rest (updo F d (.string (a ++ b))) L) : OKx P n w0 m ops K (⟨d, .binOp .add t x y ut, ty, pos, aft, none⟩ :: rest) F L := by
  refine OKx_still (fun w _ _ _ _ _ => run_str .add t x y a b (by decide) w ut _ _ _ _ _ hx hy ?_) k
  have : ¬ ((a.size + b.size : Nat) : Int) > IntKind.i64.max := by
    have e : IntKind.i64.max = 9223372036854775807 := by decide
    rw [e];omega
  simp only [Op.stringOp, if_neg this]
  rfl
theorem OKx_notT {t : TypeId} {x : Operand} (hx : rv n F x = .bool true) (k : OKx P n w0 m ops K rest (updo F d (.bool false)) L) : OKx P n w0 m ops K (⟨d, .unOp .not t x, ty, pos, aft, none⟩ :: rest) F L :=
  OKx_still (fun w _ _ _ _ _ => by simp [execOp, hx, Op.unary]) k
theorem OKx_notF {t : TypeId} {x : Operand} (hx : rv n F x = .bool false) (k : OKx P n w0 m ops K rest (updo F d (.bool true)) L) : OKx P n w0 m ops K (⟨d, .unOp .not t x, ty, pos, aft, none⟩ :: rest) F L :=
  OKx_still (fun w _ _ _ _ _ => by simp [execOp, hx, Op.unary]) k
theorem OKx_max {x y : Operand} {tt : Array TypeId} {k : IntKind} {a b : Int} (hx : rv n F x = .int k a) (hy : rv n F y = .int k b)
    (kk : OKx P n w0 m ops K rest (updo F d (.int k (max a b))) L) : OKx P n w0 m ops K (⟨d, .call { callee := .builtin .max, args := #[x, y], argTypes := tt }, ty, pos, aft, none⟩ :: rest) F L := by
  refine OKx_still (fun w _ _ _ _ _ => ?_) kk
  have e : (if b > a then b else a) = max a b := by split <;> omega
  simp [execOp, resolve, invoke, builtin, hx, hy, Builtin.max_, Builtin.max2, e]
theorem OKx_min {x y : Operand} {tt : Array TypeId} {k : IntKind} {a b : Int} (hx : rv n F x = .int k a) (hy : rv n F y = .int k b)
    (kk : OKx P n w0 m ops K rest (updo F d (.int k (min a b))) L) : OKx P n w0 m ops K (⟨d, .call { callee := .builtin .min, args := #[x, y], argTypes := tt }, ty, pos, aft, none⟩ :: rest) F L := by
  refine OKx_still (fun w _ _ _ _ _ => ?_) kk
  have e : (if b < a then b else a) = min a b := by split <;> omega
  simp [execOp, resolve, invoke, builtin, hx, hy, Builtin.min_, Builtin.min2, e]
theorem OKx_extract {x : Operand} {i : Nat} {vs : Array Value} {v : Value} (hx : rv n F x = .tuple vs) (hi : vs[i]? = some v) (k : OKx P n w0 m ops K rest (updo F d v) L) : OKx P n w0 m ops K (⟨d, .extract x i, ty, pos, aft, none⟩ :: rest) F L :=
  OKx_still (fun w _ _ _ _ _ => by simp [execOp, hx, Instr.extract, hi]) k
theorem OKx_nilCheck {x : Operand} {a : Addr} (hx : rv n F x = .pointer (some a)) (k : OKx P n w0 m ops K rest (updo F d (.pointer (some a))) L) : OKx P n w0 m ops K (⟨d, .nilCheck x, ty, pos, aft, none⟩ :: rest) F L :=
  OKx_still (fun w _ _ _ _ _ => by simp [execOp, hx]) k
theorem run_len {x : Operand} {t : TypeId} {e sz bytes : Nat} {z : Value} (T : TSlice P t e sz bytes z) {ρ : Operand → Value} {a : Option Addr} {N cap : Nat} (hx : ρ x = .slice a N cap) (w : World) (dd : Option Nat) (p : String) (af : Array Edge) (g : Option (Nat × Bool)) :
    (execOp ρ ⟨dd, .call { callee := .builtin .len, args := #[x], argTypes := #[t] }, ty, p, af, g⟩).run P w = .ok (.value (.int .i64 N)) w := by
  simp [execOp, resolve, invoke, builtin, hx, Builtin.len_, Sem.run_bind, T.und, Result.andThen, goInt]
theorem OKx_len {x : Operand} {t : TypeId} {e sz bytes : Nat} {z : Value} [T : TSlice P t e sz bytes z] {a : Option Addr} {N cap : Nat} (hx : rv n F x = .slice a N cap) (k : OKx P n w0 m ops K rest (updo F d (.int .i64 (N : Int))) L) :
    OKx P n w0 m ops K (⟨d, .call { callee := .builtin .len, args := #[x], argTypes := #[t] }, ty, pos, aft, none⟩ :: rest) F L :=
  OKx_still (fun w _ _ _ _ _ => run_len T hx w _ _ _ _) k
theorem OKx_lenR {x : Operand} {t : TypeId} {e sz bytes : Nat} {z : Value} [T : TSlice P t e sz bytes z] {v : Value} {s N : Nat} {f : Nat → Value} (hx : rv n F x = v) (hv : Sl w0 v s N f) (k : OKx P n w0 m ops K rest (updo F d (.int .i64 (N : Int))) L) :
    OKx P n w0 m ops K (⟨d, .call { callee := .builtin .len, args := #[x], argTypes := #[t] }, ty, pos, aft, none⟩ :: rest) F L := by
  obtain ⟨a, cap, e, _⟩ := hv.out
  subst e
  exact OKx_len hx k
theorem OKx_lenO {x : Operand} {t : TypeId} {e sz bytes : Nat} {z : Value} [T : TSlice P t e sz bytes z] {v : Value} (i : Nat) {e' s N : Nat} {xs : List Value} (hx : rv n F x = v) (hi : L[i]? = some (.row e' s v N xs)) (k : OKx P n w0 m ops K rest (updo F d (.int .i64 (N : Int))) L) :
    OKx P n w0 m ops K (⟨d, .call { callee := .builtin .len, args := #[x], argTypes := #[t] }, ty, pos, aft, none⟩ :: rest) F L := by
  refine OKx_still (fun w hp _ _ _ _ => ?_) k
  obtain ⟨a, cap, e, _⟩ := hp.rowShape i hi
  subst e
  exact run_len T hx w _ _ _ _
theorem OKx_lenS {x : Operand} {t : TypeId} [T : TStr P t] {s : ByteArray} (hx : rv n F x = .string s) (k : OKx P n w0 m ops K rest (updo F d (.int .i64 (s.size : Int))) L) :
    OKx P n w0 m ops K (⟨d, .call { callee := .builtin .len, args := #[x], argTypes := #[t] }, ty, pos, aft, none⟩ :: rest) F L :=
  OKx_still (fun w _ _ _ _ _ => by
    have hu : (underlying t).run P w = .ok .string w := by simp [underlying, program, Sem.run_bind, Sem.run, T.und, Result.andThen]
    simp [execOp, resolve, invoke, builtin, hx, Builtin.len_, Sem.run_bind, hu, Result.andThen, goInt]) k
theorem add_at (b o k : Nat) : (⟨b, o, none⟩ : Addr).add k = ⟨b, o + k, none⟩ := by
  unfold Addr.add
  split
  · rename_i h; subst h; rfl
  · rfl
theorem run_index {t e sz bytes : Nat} {z : Value} (T : TSlice P t e sz bytes z) {x ix : Operand} {b o N cap : Nat} {k : IntKind} {i : Int} {ρ : Operand → Value} (hx : ρ x = .slice (some ⟨b, o, none⟩) N cap) (hix : ρ ix = .int k i) (h0 : 0 ≤ i) (h1 : i < N)
    (w : World) (dd : Option Nat) (p : String) (af : Array Edge) (g : Option (Nat × Bool)) : (execOp ρ ⟨dd, .indexAddr t x ix, ty, p, af, g⟩).run P w = .ok (.value (.pointer (some ⟨b, o + i.toNat * sz, none⟩))) w := by
  simp [execOp, Instr.indexAt, hx, hix, asIntOf, Sem.run_bind, T.und, T.size, Result.andThen, h0, h1, add_at]
def Pt (w : World) (p : Value) (sz : Nat) (f : Nat → Value) : Prop := ∃ b o, p = .pointer (some ⟨b, o, none⟩) ∧ ∀ j, j < sz → w.cell? ⟨b, o + j, none⟩ = some (f j)
def Pt1 (w : World) (p : Value) (v : Value) : Prop := ∃ b o, p = .pointer (some ⟨b, o, none⟩) ∧ w.cell? ⟨b, o, none⟩ = some v
theorem OKx_idxO {t e bytes : Nat} {z : Value} [T : TSlice P t e 1 bytes z] {x ix : Operand} {g N cap : Nat} {k : IntKind} {i : Nat} (hx : rv n F x = .slice (some ⟨g, 0, none⟩) N cap) (hix : rv n F ix = .int k (i : Int)) (h1 : i < N)
    (kk : OKx P n w0 m ops K rest (updo F d (.pointer (some ⟨g, i, none⟩))) L) : OKx P n w0 m ops K (⟨d, .indexAddr t x ix, ty, pos, aft, none⟩ :: rest) F L :=
  OKx_still (fun w _ _ _ _ _ => by
    have := run_index T hx hix (by omega) (by omega) w (ty := ty)
    simp only [Int.toNat_natCast, Nat.mul_one, Nat.zero_add] at this
    exact this _ _ _ _) kk
theorem OKx_idxOz {t e bytes : Nat} {z : Value} [T : TSlice P t e 1 bytes z] {x ix : Operand} {g N cap : Nat} {k : IntKind} {i : Int} (hx : rv n F x = .slice (some ⟨g, 0, none⟩) N cap) (hix : rv n F ix = .int k i) (h0 : 0 ≤ i) (h1 : i < N)
    (kk : OKx P n w0 m ops K rest (updo F d (.pointer (some ⟨g, i.toNat, none⟩))) L) : OKx P n w0 m ops K (⟨d, .indexAddr t x ix, ty, pos, aft, none⟩ :: rest) F L :=
  OKx_still (fun w _ _ _ _ _ => by
    have := run_index T hx hix h0 h1 w (ty := ty)
    simp only [Nat.mul_one, Nat.zero_add] at this
    exact this _ _ _ _) kk
theorem OKx_idxR {t e bytes : Nat} {z : Value} [T : TSlice P t e 1 bytes z] {x ix : Operand} {v : Value} {N : Nat} {f : Nat → Value} {k : IntKind} {i : Nat} (hx : rv n F x = v) (hv : Sl w0 v 1 N f) (hix : rv n F ix = .int k (i : Int)) (h1 : i < N)
    (kk : ∀ p, Pt1 w0 p (f i) → OKx P n w0 m ops K rest (updo F d p) L) : OKx P n w0 m ops K (⟨d, .indexAddr t x ix, ty, pos, aft, none⟩ :: rest) F L := by
  obtain ⟨a, cap, e, h | ⟨b, off, ha, hc⟩⟩ := hv.out
  · omega
  · subst e; subst ha
    refine OKx_still (fun w _ _ _ _ _ => ?_) (kk (.pointer (some ⟨b, off + i, none⟩)) ⟨b, off + i, rfl, hc i (by omega)⟩)
    have := run_index T hx hix (by omega) (by omega) w (ty := ty)
    simp only [Int.toNat_natCast, Nat.mul_one] at this
    exact this _ _ _ _
theorem OKx_idxRs {t e sz bytes : Nat} {z : Value} [T : TSlice P t e sz bytes z] {x ix : Operand} {v : Value} {N : Nat} {f : Nat → Value} {k : IntKind} {i : Nat} (hx : rv n F x = v) (hv : Sl w0 v sz N f) (hix : rv n F ix = .int k (i : Int)) (h1 : i < N)
    (kk : ∀ p, Pt w0 p sz (fun c => f (i * sz + c)) → OKx P n w0 m ops K rest (updo F d p) L) : OKx P n w0 m ops K (⟨d, .indexAddr t x ix, ty, pos, aft, none⟩ :: rest) F L := by
  obtain ⟨a, cap, e, h | ⟨b, off, ha, hc⟩⟩ := hv.out
  · omega
  · subst e; subst ha
    refine OKx_still (fun w _ _ _ _ _ => ?_) (kk (.pointer (some ⟨b, off + i * sz, none⟩)) ⟨b, off + i * sz, rfl, fun c hcs => by
      rw [Nat.add_assoc]
      refine hc _ ?_
      have : (i + 1) * sz ≤ N * sz := Nat.mul_le_mul_right _ h1
      rw [Nat.succ_mul] at this;omega⟩)
    have := run_index T hx hix (by omega) (by omega) w (ty := ty)
    simp only [Int.toNat_natCast] at this
    exact this _ _ _ _
theorem OKx_idxS {t : TypeId} [T : TStr P t] {x ix : Operand} {s : ByteArray} {k : IntKind} {i : Nat} (hx : rv n F x = .string s) (hix : rv n F ix = .int k (i : Int)) (h1 : i < s.size)
    (kk : OKx P n w0 m ops K rest (updo F d (.int .u8 ((s[i]'h1).toNat : Int))) L) : OKx P n w0 m ops K (⟨d, .index t x ix, ty, pos, aft, none⟩ :: rest) F L :=
  OKx_still (fun w _ _ _ _ _ => by
    have hu : (underlying t).run P w = .ok .string w := by simp [underlying, program, Sem.run_bind, Sem.run, T.und, Result.andThen]
    simp [execOp, Instr.index, hx, hix, asIntOf, Sem.run_bind, hu, Result.andThen, h1]) kk
theorem run_fieldAddr {s f off t : Nat} (T : TFld P s f off t) {x : Operand} {b o : Nat} {ρ : Operand → Value} (hx : ρ x = .pointer (some ⟨b, o, none⟩)) (w : World) (dd : Option Nat) (p : String) (af : Array Edge) (g : Option (Nat × Bool)) :
    (execOp ρ ⟨dd, .fieldAddr s x f, ty, p, af, g⟩).run P w = .ok (.value (.pointer (some ⟨b, o + off, none⟩))) w := by
  obtain ⟨fs, fl, i, h1, h2, h3, h4, h5, h6⟩ := T.at'
  have hu : (underlying s).run P w = .ok (.struct fs) w := by simp [underlying, program, Sem.run_bind, Sem.run, h1, Result.andThen]
  have hs : (sizeOf fl.type).run P w = .ok i.size w := by simp [sizeOf, typeInfo, program, Sem.run_bind, Sem.run, h4, h5, Result.andThen]
  simp [execOp, Instr.fieldAt, hx, Sem.run_bind, hu, h2, Instr.sureAddr, fieldPlace, hs, Result.andThen, h6, h3, add_at]
theorem OKx_fldO {s f off t : Nat} [T : TFld P s f off t] {x : Operand} {b o o' : Nat} (hx : rv n F x = .pointer (some ⟨b, o, none⟩)) (ho : Nat.add o off = o') (k : OKx P n w0 m ops K rest (updo F d (.pointer (some ⟨b, o', none⟩))) L) : OKx P n w0 m ops K (⟨d, .fieldAddr s x f, ty, pos, aft, none⟩ :: rest) F L := by
  subst ho
  exact OKx_still (fun w _ _ _ _ _ => run_fieldAddr T hx w _ _ _ _) k
theorem OKx_fldR {s f off t : Nat} [T : TFld P s f off t] {x : Operand} {v : Value} {sz : Nat} {g : Nat → Value} (hx : rv n F x = v) (hv : Pt w0 v sz g) (ho : off < sz) (k : ∀ p, Pt1 w0 p (g off) → OKx P n w0 m ops K rest (updo F d p) L) : OKx P n w0 m ops K (⟨d, .fieldAddr s x f, ty, pos, aft, none⟩ :: rest) F L := by
  obtain ⟨b, o, rfl, hc⟩ := hv
  exact OKx_still (fun w _ _ _ _ _ => run_fieldAddr T hx w _ _ _ _) (k _ ⟨b, o + off, rfl, hc off ho⟩)
def Sl2 (w : World) (v : Value) (sz N : Nat) (g : Nat → Nat → Value) : Prop :=
  N ≤ 140737488355328 ∧ ∃ a cap, v = .slice a N cap ∧ (N = 0 ∨ ∃ b off, a = some ⟨b, off, none⟩ ∧ ∀ j, j < N → ∀ c, c < sz → w.cell? ⟨b, off + j * sz + c, none⟩ = some (g j c))
theorem Sl2.below {w w' : World} {v : Value} {sz N : Nat} {g : Nat → Nat → Value} (h : Sl2 w v sz N g) (hb : Below w.heap.size w w') : Sl2 w' v sz N g := by
  obtain ⟨h1, a, cap, h2, h3⟩ := h
  refine ⟨h1, a, cap, h2, ?_⟩
  rcases h3 with h3 | ⟨b, off, h4, h5⟩
  · exact .inl h3
  · exact .inr ⟨b, off, h4, fun j hj c hc => (hb.cell (p := ⟨b, off + j * sz + c, none⟩) (World.block_lt_of_cell? w _ (h5 j hj c hc))).trans (h5 j hj c hc)⟩
theorem OKx_lenR2 {x : Operand} {t : TypeId} {e sz' bytes : Nat} {z : Value} [T : TSlice P t e sz' bytes z] {v : Value} {sz N : Nat} {g : Nat → Nat → Value} (hx : rv n F x = v) (hv : Sl2 w0 v sz N g) (k : OKx P n w0 m ops K rest (updo F d (.int .i64 (N : Int))) L) :
    OKx P n w0 m ops K (⟨d, .call { callee := .builtin .len, args := #[x], argTypes := #[t] }, ty, pos, aft, none⟩ :: rest) F L := by
  obtain ⟨_, a, cap, e, _⟩ := hv
  subst e
  exact OKx_len hx k
theorem OKx_idxR2 {t e sz bytes : Nat} {z : Value} [T : TSlice P t e sz bytes z] {x ix : Operand} {v : Value} {N : Nat} {g : Nat → Nat → Value} {k : IntKind} {i : Nat} (hx : rv n F x = v) (hv : Sl2 w0 v sz N g) (hix : rv n F ix = .int k (i : Int)) (h1 : i < N)
    (kk : ∀ p, Pt w0 p sz (g i) → OKx P n w0 m ops K rest (updo F d p) L) : OKx P n w0 m ops K (⟨d, .indexAddr t x ix, ty, pos, aft, none⟩ :: rest) F L := by
  obtain ⟨_, a, cap, e, h | ⟨b, off, ha, hc⟩⟩ := hv
  · omega
  · subst e; subst ha
    refine OKx_still (fun w _ _ _ _ _ => ?_) (kk (.pointer (some ⟨b, off + i * sz, none⟩)) ⟨b, off + i * sz, rfl, fun c hcs => hc i h1 c hcs⟩)
    have := run_index T hx hix (by omega) (by omega) w (ty := ty)
    simp only [Int.toNat_natCast] at this
    exact this _ _ _ _
theorem run_load1 {t : TypeId} {z : Value} (T : TOne P t z) {x : Operand} {a : Addr} {v : Value} {ρ : Operand → Value} (hx : ρ x = .pointer (some a)) {w : World} (hc : w.cell? a = some v) (dd : Option Nat) (p : String) (af : Array Edge) (g : Option (Nat × Bool)) :
    (execOp ρ ⟨dd, .load t x, ty, p, af, g⟩).run P w = .ok (.value v) w := by
  simp [execOp, Instr.loadAt, hx, Instr.sureAddr, loadVar, Sem.run_bind, T.agg, Result.andThen, load, Sem.run, hc]
theorem OKx_ldB {t : TypeId} {z : Value} [T : TOne P t z] {x : Operand} {g k : Nat} (i : Nat) {e : TypeId} {cs : List Value} {v : Value} (hx : rv n F x = .pointer (some ⟨g, k, none⟩)) (hi : L[i]? = some (.box e g cs)) (hc : cs[k]? = some v)
    (kk : OKx P n w0 m ops K rest (updo F d v) L) : OKx P n w0 m ops K (⟨d, .load t x, ty, pos, aft, none⟩ :: rest) F L :=
  OKx_still (fun w hp _ _ _ _ => run_load1 T hx (((hp.boxAt i hi).1 k).trans hc) _ _ _ _) kk
theorem OKx_ldW {t : TypeId} {z : Value} [T : TOne P t z] {x : Operand} {g k : Nat} (i : Nat) {e : TypeId} {N cap : Nat} {cs : List Value} {v : Value} (hx : rv n F x = .pointer (some ⟨g, k, none⟩)) (hi : L[i]? = some (.row e 1 (.slice (some ⟨g, 0, none⟩) N cap) N cs)) (hk : k < N) (hc : cs[k]? = some v)
    (kk : OKx P n w0 m ops K rest (updo F d v) L) : OKx P n w0 m ops K (⟨d, .load t x, ty, pos, aft, none⟩ :: rest) F L :=
  OKx_still (fun w hp _ _ _ _ => run_load1 T hx (((hp.rowAt i hi).1 k (by omega)).trans hc) _ _ _ _) kk
theorem OKx_ldR {t : TypeId} {z : Value} [T : TOne P t z] {x : Operand} {p v : Value} (hx : rv n F x = p) (hp : Pt1 w0 p v)
    (kk : OKx P n w0 m ops K rest (updo F d v) L) : OKx P n w0 m ops K (⟨d, .load t x, ty, pos, aft, none⟩ :: rest) F L := by
  obtain ⟨b, o, rfl, hc⟩ := hp
  exact OKx_still (fun w hp _ _ _ _ => run_load1 T hx ((hp.below.cell (World.block_lt_of_cell? w0 _ hc)).trans hc) _ _ _ _) kk
theorem run_cells {a : Addr} {w : World} : ∀ (cs : List Value) (i : Nat) (acc : Array Value), (∀ j, j < cs.length → w.cell? (a.add (i + j)) = cs[j]?) → (loadCellsFrom a i cs.length acc).run P w = .ok (acc ++ cs.toArray) w := by
  intro cs
  induction cs with
  | nil => intro i acc _; simp [loadCellsFrom]
  | cons c cs ih =>
    intro i acc h
    have h0 := h 0 (by simp)
    simp only [Nat.add_zero, List.getElem?_cons_zero] at h0
    have := ih (i + 1) (acc.push c) (fun j hj => by
      have := h (j + 1) (by simpa using hj)
      rw [show i + 1 + j = i + (j + 1) by omega, this]; simp)
    simp [loadCellsFrom, Sem.run_bind, load, Sem.run, h0, Result.andThen, this]
theorem run_loadA {t sz : Nat} {zs : List Value} (T : TAgg P t sz zs) {x : Operand} {b o : Nat} {cs : List Value} {ρ : Operand → Value} (hx : ρ x = .pointer (some ⟨b, o, none⟩)) {w : World} (hl : cs.length = sz) (hc : ∀ j, j < cs.length → w.cell? ⟨b, o + j, none⟩ = cs[j]?) (dd : Option Nat) (p : String) (af : Array Edge) (g : Option (Nat × Bool)) :
    (execOp ρ ⟨dd, .load t x, ty, p, af, g⟩).run P w = .ok (.value (.agg cs.toArray)) w := by
  subst hl
  have := run_cells (P := P) (a := ⟨b, o, none⟩) (w := w) cs 0 #[] (fun j hj => by rw [Nat.zero_add, add_at]; exact hc j hj)
  simp [execOp, Instr.loadAt, hx, Instr.sureAddr, loadVar, Sem.run_bind, T.agg, T.size, Result.andThen, loadCells, this]
theorem OKx_ldBA {t sz : Nat} {zs : List Value} [T : TAgg P t sz zs] {x : Operand} {g : Nat} (i : Nat) {e : TypeId} {cs : List Value} (hx : rv n F x = .pointer (some ⟨g, 0, none⟩)) (hi : L[i]? = some (.box e g cs)) (hl : cs.length = sz)
    (kk : OKx P n w0 m ops K rest (updo F d (.agg cs.toArray)) L) : OKx P n w0 m ops K (⟨d, .load t x, ty, pos, aft, none⟩ :: rest) F L :=
  OKx_still (fun w hp _ _ _ _ => run_loadA T hx hl (fun j hj => by rw [Nat.zero_add]; exact (hp.boxAt i hi).1 j) _ _ _ _) kk
theorem OKx_ldRA {t sz : Nat} {zs : List Value} [T : TAgg P t sz zs] {x : Operand} {p : Value} {f : Nat → Value} (hx : rv n F x = p) (hp : Pt w0 p sz f)
    (kk : OKx P n w0 m ops K rest (updo F d (.agg ((List.range sz).map f).toArray)) L) : OKx P n w0 m ops K (⟨d, .load t x, ty, pos, aft, none⟩ :: rest) F L := by
  obtain ⟨b, o, rfl, hc⟩ := hp
  refine OKx_still (fun w hp _ _ _ _ => run_loadA T hx (by simp) (fun j hj => ?_) _ _ _ _) kk
  have hj' : j < sz := by simpa using hj
  rw [(hp.below.cell (World.block_lt_of_cell? w0 _ (hc j hj'))).trans (hc j hj')]
  simp [hj']
theorem OKx_func {fn : Fn} {a b : Array Operand} {x y : List Value} (hx : a.toList.map (rv n F) = x) (hy : b.toList.map (rv n F) = y) (kk : OKx P n w0 m ops K rest (updo F d (.func fn x.toArray y.toArray)) L) : OKx P n w0 m ops K (⟨d, .makeFunc fn a b, ty, pos, aft, none⟩ :: rest) F L := by
  refine OKx_still (fun w _ _ _ _ _ => ?_) kk
  subst hx; subst hy
  have e : ∀ c : Array Operand, Array.map (rv n F) c = (List.map (rv n F) c.toList).toArray := fun c => by rw [← Array.toList_inj]; simp
  simp [execOp, Instr.makeFunc, e]
theorem OKx_box1 {e : TypeId} {x : Operand} {v : Value} [hE : Keeps w0 L Lw] (hx : rv n F x = v) (hc : v.cells = #[v]) (kk : ∀ g, OKx P n w0 (.seq Lw) ops K rest (updo F d (.pointer (some ⟨g, 0, none⟩))) (.box e g [v] :: L)) :
    OKx P n w0 (.seq Lw) ops K (⟨d, .box e x, ty, pos, aft, none⟩ :: rest) F L := by
  refine OKx_act hE.ent fun w hp => ⟨_, w.alloc (.cells #[v] e), _, ?_, hp.box e #[v], kk w.heap.size⟩
  simp [execOp, Instr.box, hx, newVar, newRow, newObj, Sem.run_bind, Sem.run, hc, Result.andThen]
theorem OKx_boxA {e : TypeId} {x : Operand} {cs : Array Value} [hE : Keeps w0 L Lw] (hx : rv n F x = .agg cs) (kk : ∀ g, OKx P n w0 (.seq Lw) ops K rest (updo F d (.pointer (some ⟨g, 0, none⟩))) (.box e g cs.toList :: L)) :
    OKx P n w0 (.seq Lw) ops K (⟨d, .box e x, ty, pos, aft, none⟩ :: rest) F L := by
  refine OKx_act hE.ent fun w hp => ⟨_, w.alloc (.cells cs e), _, ?_, hp.box e cs, kk w.heap.size⟩
  simp [execOp, Instr.box, hx, newVar, newRow, newObj, Sem.run_bind, Sem.run, Value.cells, Result.andThen]
theorem OKx_alloc1 {e : TypeId} {z : Value} [T : TOne P e z] [hE : Keeps w0 L Lw] (kk : ∀ g, OKx P n w0 (.seq Lw) ops K rest (updo F d (.pointer (some ⟨g, 0, none⟩))) (.box e g [z] :: L)) :
    OKx P n w0 (.seq Lw) ops K (⟨d, .alloc e, ty, pos, aft, none⟩ :: rest) F L := by
  refine OKx_act hE.ent fun w hp => ⟨_, w.alloc (.cells #[z] e), _, ?_, hp.box e #[z], kk w.heap.size⟩
  simp [execOp, Instr.alloc, newVar, newRow, newObj, Sem.run_bind, Sem.run, T.zero, T.cells, Result.andThen]
theorem OKx_allocA {e sz : Nat} {zs : List Value} [T : TAgg P e sz zs] [hE : Keeps w0 L Lw] (kk : ∀ g, OKx P n w0 (.seq Lw) ops K rest (updo F d (.pointer (some ⟨g, 0, none⟩))) (.box e g zs :: L)) :
    OKx P n w0 (.seq Lw) ops K (⟨d, .alloc e, ty, pos, aft, none⟩ :: rest) F L := by
  refine OKx_act hE.ent fun w hp => ⟨_, w.alloc (.cells zs.toArray e), _, ?_, hp.box e zs.toArray, kk w.heap.size⟩
  simp [execOp, Instr.alloc, newVar, newRow, newObj, Sem.run_bind, Sem.run, T.zero, Value.cells, Result.andThen]
theorem one_store {v : Value} (h : v.oneCell' = true) (p : Addr) (w : World) (hc : ∃ u, w.cell? p = some u) (hf : w.frozen? p = false) : (store p v).run P w = .ok () (w.setCell p v) := by
  obtain ⟨u, hu⟩ := hc
  cases v <;> first | (simp [Value.oneCell'] at h; done) | simp [store, Sem.run, hu, hf]
theorem run_store1 {t : TypeId} {z : Value} (T : TOne P t z) {x y : Operand} {b o : Nat} {v u : Value} {ρ : Operand → Value} (hx : ρ x = .pointer (some ⟨b, o, none⟩)) (hy : ρ y = v) (h1 : v.oneCell' = true) (hv : v.cells = #[v]) {w : World} (hc : w.cell? ⟨b, o, none⟩ = some u) (hf : w.frozen? ⟨b, o, none⟩ = false)
    (dd : Option Nat) (p : String) (af : Array Edge) (g : Option (Nat × Bool)) : (execOp ρ ⟨dd, .store t x y, ty, p, af, g⟩).run P w = .ok .skip (w.setCell ⟨b, o, none⟩ v) := by
  have h0 := add_at b o 0
  simp only [Nat.add_zero] at h0
  simp [execOp, Instr.storeAt, hx, hy, Instr.sureAddr, storeVar, Sem.run_bind, T.size, hv, storeCells, h0, one_store h1 _ w ⟨u, hc⟩ hf, Result.andThen]
theorem OKx_stB {t : TypeId} {z : Value} [T : TOne P t z] {x y : Operand} {g k : Nat} {v : Value} [hE : Keeps w0 L Lw] (i : Nat) {e : TypeId} {cs : List Value} {cs' : List Value} {L' : List Res} (hx : rv n F x = .pointer (some ⟨g, k, none⟩)) (hy : rv n F y = v) (h1 : v.oneCell' = true) (hv : v.cells = #[v]) (hi : L[i]? = some (.box e g cs)) (hk : Nat.ble (k + 1) cs.length = true)
    (hs : cs.set k v = cs') (hL : L.set i (.box e g cs') = L') (kk : OKx P n w0 (.seq Lw) ops K rest (updo F d undef) L') : OKx P n w0 (.seq Lw) ops K (⟨d, .store t x y, ty, pos, aft, none⟩ :: rest) F L := by
  subst hs; subst hL
  have hk' : k < cs.length := by rw [Nat.ble_eq] at hk; exact hk
  refine OKx_act0 hE.ent fun w hp => ⟨_, _, ?_, hp.setBox hi k v, kk⟩
  obtain ⟨hc, hf, _, _⟩ := hp.boxAt i hi
  exact run_store1 T hx hy h1 hv ((hc k).trans (List.getElem?_eq_getElem hk')) (hf k) _ _ _ _
theorem OKx_stW {t : TypeId} {z : Value} [T : TOne P t z] {x y : Operand} {g k : Nat} {v : Value} [hE : Keeps w0 L Lw] (i : Nat) {e : TypeId} {N cap : Nat} {cs cs' : List Value} {L' : List Res} (hx : rv n F x = .pointer (some ⟨g, k, none⟩)) (hy : rv n F y = v) (h1 : v.oneCell' = true) (hv : v.cells = #[v]) (hi : L[i]? = some (.row e 1 (.slice (some ⟨g, 0, none⟩) N cap) N cs)) (hk : k < N)
    (hs : cs.set k v = cs') (hL : L.set i (.row e 1 (.slice (some ⟨g, 0, none⟩) N cap) N cs') = L') (kk : OKx P n w0 (.seq Lw) ops K rest (updo F d undef) L') : OKx P n w0 (.seq Lw) ops K (⟨d, .store t x y, ty, pos, aft, none⟩ :: rest) F L := by
  subst hs; subst hL
  refine OKx_act0 hE.ent fun w hp => ⟨_, _, ?_, hp.setRow hi k v, kk⟩
  obtain ⟨hc, hf, _, _⟩ := hp.rowAt i hi
  have ho : w.ownsRow w0.heap.size e 1 (.slice (some ⟨g, 0, none⟩) N cap) N cs := hp.ok _ (List.mem_of_getElem? hi)
  have hl := ho.1
  exact run_store1 T hx hy h1 hv ((hc k (by omega)).trans (List.getElem?_eq_getElem (by omega))) (hf k) _ _ _ _
theorem foldl_cells (cs : List Value) : ∀ (i : Nat) (acc : List Value), i + cs.length ≤ acc.length →
    ((cs.zipIdx i).foldl (fun (a : Array Value) (x : Value × Nat) => a.setIfInBounds x.2 x.1) acc.toArray).toList = acc.take i ++ cs ++ acc.drop (i + cs.length) := by
  induction cs with
  | nil => intro i acc _; simp
  | cons c cs ih =>
    intro i acc h
    simp only [List.length_cons] at h
    simp only [List.zipIdx_cons, List.foldl_cons, List.setIfInBounds_toArray]
    rw [ih (i + 1) (acc.set i c) (by simp;omega)]
    have hi : i < acc.length := by omega
    have e1 : (acc.set i c).take (i + 1) = acc.take i ++ [c] := by
      rw [List.take_succ_eq_append_getElem (by simpa using hi)]
      simp [List.take_set_of_le]
    rw [e1, List.drop_set_of_lt (by omega)]
    simp [Nat.add_assoc, Nat.add_comm 1]
theorem run_call {fo : Operand} {args : Array Operand} {tt : Array TypeId} {f : FuncId} {fs cs : Array Value} {av : List Value} {ρ : Operand → Value} (hf : ρ fo = .func (.func f) fs cs) (ha : fs.toList ++ args.toList.map ρ ++ cs.toList = av) (he : Enters' P f)
    (w : World) (dd : Option Nat) (p : String) (af : Array Edge) (g : Option (Nat × Bool)) : (execOp ρ ⟨dd, .call { callee := .value fo, args := args, argTypes := tt }, ty, p, af, g⟩).run P w = .ok (.enter f av.toArray) w := by
  have e : fs ++ Array.map ρ args ++ cs = av.toArray := by
    rw [← Array.toList_inj, ← ha]; simp
  have e2 := he.run av.toArray w
  simp only [execOp, resolve, hf, Deferred.ofValue, Sem.run_bind, Sem.run_pure, Result.andThen, invoke]
  rw [e, e2]
theorem OKx_call {fo : Operand} {args : Array Operand} {tt : Array TypeId} {f : FuncId} {fs cs : Array Value} {av : List Value} {R : Value → List Res → Prop}
    [hE : Keeps w0 L Lw] (hf : rv n F fo = .func (.func f) fs cs) (ha : fs.toList ++ args.toList.map (rv n F) ++ cs.toList = av)
    (h : ∀ w, Hp w0.heap.size w0 w L → Sat P f av w R) (kk : ∀ v L', R v L' → OKx P n w0 (.seq Lw) ops K rest (updo F d v) (L' ++ L)) :
    OKx P n w0 (.seq Lw) ops K (⟨d, .call { callee := .value fo, args := args, argTypes := tt }, ty, pos, aft, none⟩ :: rest) F L := by
  refine OKx_actW hE.ent fun w a hfr hp => ?_
  have hs := h w hp
  unfold Oper.wp
  rw [hfr.eval, run_call hf ha hs.enters, Oper.upon_enter]
  refine hs.at.mono ?_
  rintro e w' ⟨v, L', rfl, hp', hR⟩
  exact ((kk v L' hR).use w' _ (hfr.put d v) (hp.call hp'))
theorem OKx_callL {fo : Operand} {args : Array Operand} {tt : Array TypeId} {f : FuncId} {fs cs : Array Value} {av : List Value} {R : Value → List Res → Prop}
    [hE : Keeps w0 L Lw] (hf : rv n F fo = .func (.func f) fs cs) (ha : fs.toList ++ args.toList.map (rv n F) ++ cs.toList = av)
    (h : SatL P f av w0 L R) (kk : ∀ v L', R v L' → OKx P n w0 (.seq Lw) ops K rest (updo F d v) L') :
    OKx P n w0 (.seq Lw) ops K (⟨d, .call { callee := .value fo, args := args, argTypes := tt }, ty, pos, aft, none⟩ :: rest) F L := by
  refine OKx_actW hE.ent fun w a hfr hp => ?_
  unfold Oper.wp
  rw [hfr.eval, run_call hf ha h.enters, Oper.upon_enter]
  refine (h.calls w hp).mono ?_
  rintro e w' ⟨v, L', rfl, hp', hR⟩
  exact ((kk v L' hR).use w' _ (hfr.put d v) hp')
theorem OKx_callQ {fo : Operand} {args : Array Operand} {tt : Array TypeId} {f : FuncId} {fs cs : Array Value} {av : List Value} {R : Value → List Res → Prop} {v : Value}
    (hf : rv n F fo = .func (.func f) fs cs) (ha : fs.toList ++ args.toList.map (rv n F) ++ cs.toList = av)
    (h : ∀ w, Hp w0.heap.size w0 w L → Sat P f av w R) (hR : ∀ u L', R u L' → u = v) (kk : OKx P n w0 .quiet ops K rest (updo F d v) L) :
    OKx P n w0 .quiet ops K (⟨d, .call { callee := .value fo, args := args, argTypes := tt }, ty, pos, aft, none⟩ :: rest) F L := by
  refine OKx.mkQ fun a hfr => ?_
  unfold wpQuiet
  simp only [Region.wanted, if_true]
  refine ⟨v, fun w hp => ?_, kk.useQ _ (hfr.put d v)⟩
  have hs := h w hp
  unfold Oper.quietAt
  rw [hfr.eval, run_call hf ha hs.enters]
  refine ⟨rfl, hs.at.mono ?_⟩
  rintro e w' ⟨u, L', rfl, hp', hR'⟩
  rw [hR u L' hR']
  exact ⟨rfl, (hp.call hp').sub (List.sublist_append_right L' L)⟩
def Md.calls : Md → Bool
  | .pure => false
  | _ => true
abbrev SatV (P : Program) (f : FuncId) (av : List Value) (w : World) (v : Value) : Prop := Sat P f av w (fun u L' => u = v ∧ L' = [])
theorem OKx_callV {fo : Operand} {args : Array Operand} {tt : Array TypeId} {f : FuncId} {fs cs : Array Value} {av : List Value} {v : Value}
    (hm : m.calls = true) [hk : KeepsM w0 L m] (hf : rv n F fo = .func (.func f) fs cs) (ha : fs.toList ++ args.toList.map (rv n F) ++ cs.toList = av)
    (h : ∀ w, Hp w0.heap.size w0 w L → SatV P f av w v) (kk : OKx P n w0 m ops K rest (updo F d v) L) :
    OKx P n w0 m ops K (⟨d, .call { callee := .value fo, args := args, argTypes := tt }, ty, pos, aft, none⟩ :: rest) F L := by
  cases m with
  | seq Lw => exact OKx_call (hE := ⟨hk.ent⟩) hf ha h (by rintro u L' ⟨rfl, rfl⟩; exact kk)
  | quiet => exact OKx_callQ hf ha h (fun u L' h => h.1) kk
  | pure => cases hm
theorem OKx_callB {fo : Operand} {args : Array Operand} {tt : Array TypeId} {f : FuncId} {fs cs : Array Value} {av : List Value} {b : Bool}
    (hm : m.calls = true) [hk : KeepsM w0 L m] (hf : rv n F fo = .func (.func f) fs cs) (ha : fs.toList ++ args.toList.map (rv n F) ++ cs.toList = av)
    (h : ∀ w, Hp w0.heap.size w0 w L → SatV P f av w (.bool b)) (kT : b = true → OKx P n w0 m ops K rest (updo F d (.bool true)) L) (kF : b = false → OKx P n w0 m ops K rest (updo F d (.bool false)) L) :
    OKx P n w0 m ops K (⟨d, .call { callee := .value fo, args := args, argTypes := tt }, ty, pos, aft, none⟩ :: rest) F L := by
  cases b with
  | true => exact OKx_callV hm hf ha h (kT rfl)
  | false => exact OKx_callV hm hf ha h (kF rfl)
theorem OKx_append1 {s x : Operand} {t : TypeId} {e e' bytes : Nat} {z : Value} [T : TSlice P t e 1 bytes z] [hE : Keeps w0 L Lw] (i j : Nat) {v y : Value} {N g c : Nat} {xs : List Value}
    (hs : rv n F s = v) (hx : rv n F x = .slice (some ⟨g, 0, none⟩) 1 c) (hi : L[i]? = some (.row e 1 v N xs)) (hj : L[j]? = some (.row e' 1 (.slice (some ⟨g, 0, none⟩) 1 c) 1 [y])) (h1 : y.oneCell' = true)
    (hb : (N + 1) * bytes ≤ 140737488355328) (hN : N + 1 ≤ 9223372036854775807)
    (kk : ∀ g' cap, OKx P n w0 (.seq Lw) ops K rest (updo F d (.slice (some ⟨g', 0, none⟩) (N + 1) cap)) (L.set i (.row e 1 (.slice (some ⟨g', 0, none⟩) (N + 1) cap) (N + 1) (xs ++ [y])))) :
    OKx P n w0 (.seq Lw) ops K (⟨d, .call { callee := .builtin .append, args := #[s, x], argTypes := #[t, t] }, ty, pos, aft, none⟩ :: rest) F L := by
  refine OKx_actW hE.ent fun w a hfr hp => wp_of_list (ops := ops) rfl ?_
  have hc : w.cell? ⟨g, 0, none⟩ = some y := by
    have := (hp.rowAt j hj).1 0 (by omega)
    simpa using this
  refine wpList_append1_hp rfl s x t rfl T.ty hp i hi (by rw [hfr.eval]; exact hs) g c y (by rw [hfr.eval]; exact hx) hc h1 hb hN ?_
  intro g' cap w' hp'
  exact ⟨rfl, (kk g' cap).use w' _ (hfr.put d _) hp'⟩
theorem OKx_append {s x : Operand} {t : TypeId} {e sz bytes : Nat} {z : Value} [T : TSlice P t e sz bytes z] [hE : Keeps w0 L Lw] (i : Nat) {v : Value} {N b o M c : Nat} {xs ys : List Value}
    (hs : rv n F s = v) (hx : rv n F x = .slice (some ⟨b, o, none⟩) M c) (hi : L[i]? = some (.row e sz v N xs)) (hl : ys.length = M * sz) (hy : ∀ w, Hp w0.heap.size w0 w L → ∀ j u, ys[j]? = some u → w.cell? ⟨b, o + j, none⟩ = some u) (h1 : ∀ u ∈ ys, u.oneCell' = true)
    (hb : (N + M) * bytes ≤ 140737488355328) (hN : N + M ≤ 9223372036854775807) (hM : 0 < M)
    (kk : ∀ g' cap, OKx P n w0 (.seq Lw) ops K rest (updo F d (.slice (some ⟨g', 0, none⟩) (N + M) cap)) (L.set i (.row e sz (.slice (some ⟨g', 0, none⟩) (N + M) cap) (N + M) (xs ++ ys)))) :
    OKx P n w0 (.seq Lw) ops K (⟨d, .call { callee := .builtin .append, args := #[s, x], argTypes := #[t, t] }, ty, pos, aft, none⟩ :: rest) F L := by
  refine OKx_actW hE.ent fun w a hfr hp => wp_of_list (ops := ops) rfl ?_
  refine wpList_append_hp rfl s x t rfl T.ty hp i hi (by rw [hfr.eval]; exact hs) ⟨b, o, none⟩ M c ys (by rw [hfr.eval]; exact hx) hl (fun j u hj => by rw [add_at]; exact hy w hp j u hj) h1 hb hN ?_
  intro v' w' hp' hg
  obtain ⟨g', cap, rfl⟩ := hg hM
  exact ⟨rfl, (kk g' cap).use w' _ (hfr.put d _) hp'⟩
theorem fillS (sz : Nat) : ∀ (cs : List (List Value)) (vs : List Value) (k : Nat) (acc : List Value), vs.map (fun v => v.cells.toList) = cs → (∀ c ∈ cs, c.length = sz) → acc.length = (k + cs.length) * sz →
    Instr.fill (fun i => some (i * sz, sz)) acc.toArray ((vs.zipIdx k).map fun x => (x.2, x.1)) = some (acc.take (k * sz) ++ cs.flatten).toArray := by
  intro cs
  induction cs with
  | nil =>
    intro vs k acc hv _ hl
    obtain rfl : vs = [] := by simpa using hv
    simp only [List.length_nil, Nat.add_zero] at hl
    simp [Instr.fill, List.take_of_length_le (Nat.le_of_eq hl)]
  | cons c cs ih =>
    intro vs k acc hv hc hl
    obtain ⟨v, vs', rfl⟩ : ∃ v vs', vs = v :: vs' := by
      cases vs with
      | nil => simp at hv
      | cons v vs' => exact ⟨v, vs', rfl⟩
    simp only [List.map_cons, List.cons.injEq] at hv
    obtain ⟨hv1, hv2⟩ := hv
    have hcs : c.length = sz := hc c (by simp)
    have hvs : v.cells.size = sz := by rw [← hcs, ← hv1]; simp
    simp only [List.length_cons] at hl
    have hbd : k * sz + sz ≤ acc.length := by
      rw [hl, ← Nat.succ_mul]
      exact Nat.mul_le_mul_right _ (by omega)
    have hcond : ((!decide (v.cells.size = sz)) || decide (k * sz + v.cells.size > acc.toArray.size)) = false := by
      simp [hvs];omega
    simp only [List.zipIdx_cons, List.map_cons, Instr.fill]
    have hcond' : (decide (v.cells.size ≠ sz) || decide (k * sz + v.cells.size > acc.toArray.size)) = false := by
      simp [hvs];omega
    rw [if_neg (by rw [hcond']; simp)]
    have hfold : v.cells.zipIdx.foldl (fun (a : Array Value) (x : Value × Nat) => a.setIfInBounds (k * sz + x.2) x.1) acc.toArray = (acc.take (k * sz) ++ c ++ acc.drop (k * sz + sz)).toArray := by
      rw [← Array.toList_inj, ← Array.foldl_toList, Array.toList_zipIdx, hv1]
      have := foldl_cells c (k * sz) acc (by rw [hcs]; exact hbd)
      have hz : ∀ (l : List Value) (j : Nat) (b : Array Value), (l.zipIdx j).foldl (fun (a : Array Value) (x : Value × Nat) => a.setIfInBounds (k * sz + x.2) x.1) b = (l.zipIdx (k * sz + j)).foldl (fun (a : Array Value) (x : Value × Nat) => a.setIfInBounds x.2 x.1) b := by
        intro l
        induction l with
        | nil => intro j b; rfl
        | cons y l ih => intro j b; simp only [List.zipIdx_cons, List.foldl_cons]; rw [ih]; rfl
      rw [hz, Nat.add_zero, this, hcs]
    rw [hfold, ih vs' (k + 1) _ hv2 (fun c' h' => hc c' (by simp [h'])) (by
      simp only [List.length_append, List.length_take, List.length_drop, hcs]
      rw [show k + 1 + cs.length = k + (cs.length + 1) by omega, ← hl];omega)]
    congr 2
    have e : (List.take (k * sz) acc ++ c).length = (k + 1) * sz := by
      rw [List.length_append, List.length_take, hcs, Nat.succ_mul];omega
    rw [List.take_append_of_le_length (by omega), List.take_of_length_le (by omega)]
    simp
theorem run_slit {t e sz bytes : Nat} {z : Value} (T : TSlice P t e sz bytes z) {len : Nat} {parts : Array (Nat × Operand)} {vs : List Value} {cs : List (List Value)} {ρ : Operand → Value} (hi : parts.toList.map (·.1) = List.range len) (hv : parts.toList.map (fun x => ρ x.2) = vs) (hc : vs.map (fun v => v.cells.toList) = cs) (hsz : ∀ c ∈ cs, c.length = sz)
    (hb : len * sz ≤ 16777216) (w : World) (dd : Option Nat) (p : String) (af : Array Edge) (g : Option (Nat × Bool)) :
    (execOp ρ ⟨dd, .buildSlice t len parts, ty, p, af, g⟩).run P w = .ok (.value (.slice (some ⟨w.heap.size, 0, none⟩) len len)) (w.alloc (.cells cs.flatten.toArray e)) := by
  have hlen : parts.toList.length = len := by
    have := congrArg List.length hi
    simpa using this
  have hvl : vs.length = len := by rw [← hv, List.length_map, hlen]
  have hcl : cs.length = len := by rw [← hc, List.length_map, hvl]
  have hparts : (parts.map fun x => (x.1, ρ x.2)).toList = (vs.zipIdx 0).map fun x => (x.2, x.1) := by
    rw [Array.toList_map]
    apply List.ext_getElem
    · simp [hvl, ← hlen]
    · intro j h1 h2
      have a1 : (parts.toList.map (·.1))[j]'(by simpa using h1) = j := by simp [hi]
      have a2 : (parts.toList.map (fun x => ρ x.2))[j]'(by simpa using h1) = vs[j]'(by simpa using h2) := by simp [hv]
      simp only [List.getElem_map] at a1 a2
      simp only [List.getElem_map, List.getElem_zipIdx, a1, a2, Nat.zero_add]
  obtain ⟨i0, hi0, hz0, hz1, hz2⟩ := info_parts T.ty.inf
  have hzv : (zeroValue e).run P w = .ok z w := by simp [zeroValue, typeInfo, program, Sem.run_bind, Sem.run, hi0, hz0, Result.andThen]
  have hfill : ∀ zero : Array Value, Instr.fill (fun i => some (i * sz, sz)) ((Array.range (len * sz)).map (zero[· % zero.size]!)) (parts.map fun x => (x.1, ρ x.2)).toList = some cs.flatten.toArray := by
    intro zero
    have := fillS sz cs vs 0 ((Array.range (len * sz)).map (zero[· % zero.size]!)).toList hc hsz (by simp [hcl])
    rw [hparts]
    simp only [Nat.zero_mul, List.take_zero, List.nil_append] at this
    rw [← this, Array.toArray_toList]
  have hb' : ¬ len * sz > 2 ^ 24 := by
    have : (2 : Nat) ^ 24 = 16777216 := by decide
    omega
  have hmap : Array.map (fun x => match x with | (i, x) => (i, ρ x)) parts = parts.map fun x => (x.1, ρ x.2) := rfl
  simp only [execOp, hmap, Instr.buildSlice, Sem.run_bind, T.und, T.size, Result.andThen, if_neg hb', Sem.run_pure]
  by_cases h0 : len * sz = 0
  · simp only [if_pos h0, Sem.run_pure, hfill]
    simp [newRow, newObj, Sem.run_bind, Sem.run, Result.andThen]
  · simp only [if_neg h0, Sem.run_bind, hzv, Result.andThen, Sem.run_pure, hfill]
    simp [newRow, newObj, Sem.run_bind, Sem.run, Result.andThen]
theorem OKx_slit {t e sz bytes : Nat} {z : Value} [T : TSlice P t e sz bytes z] {len : Nat} {parts : Array (Nat × Operand)} {vs : List Value} {cs : List (List Value)} [hE : Keeps w0 L Lw] (xs : List Value) (hi : parts.toList.map (·.1) = List.range len) (hv : parts.toList.map (fun x => rv n F x.2) = vs) (hc : vs.map (fun v => v.cells.toList) = cs) (hsz : (cs.all fun c => Nat.beq c.length sz) = true) (hx : cs.flatten = xs)
    (hb : Nat.ble (len * sz) 16777216 = true) (kk : ∀ g, OKx P n w0 (.seq Lw) ops K rest (updo F d (.slice (some ⟨g, 0, none⟩) len len)) (.row e sz (.slice (some ⟨g, 0, none⟩) len len) len xs :: L)) :
    OKx P n w0 (.seq Lw) ops K (⟨d, .buildSlice t len parts, ty, pos, aft, none⟩ :: rest) F L := by
  have hsz' : ∀ c ∈ cs, c.length = sz := fun c hc' => Nat.eq_of_beq_eq_true (List.all_eq_true.1 hsz c hc')
  have hb' : len * sz ≤ 16777216 := by rwa [Nat.ble_eq] at hb
  have hcl : cs.length = len := by
    have h1 := congrArg List.length hi
    have h2 := congrArg List.length hv
    have h3 := congrArg List.length hc
    simp at h1 h2 h3
    omega
  have hxl : xs.length = len * sz := by
    rw [← hx, List.length_flatten, ← hcl]
    clear hx hc hi hv hsz hcl hb hb'
    induction cs with
    | nil => simp
    | cons c cs ih => simp [hsz' c (by simp), ih (fun c h => hsz' c (by simp [h])), Nat.succ_mul, Nat.add_comm]
  have hm : len ≤ maxLen := by
    have := T.ty.pos
    have h1 : len * 1 ≤ len * sz := Nat.mul_le_mul_left _ this
    unfold maxLen;omega
  refine OKx_act hE.ent fun w hp => ⟨_, _, _, run_slit T hi hv hc hsz' hb' w _ _ _ _, ?_, kk w.heap.size⟩
  rw [hx]
  have := hp.lit e sz xs.toArray len hm (by simpa using hxl)
  simpa using this
theorem OKx_slit0 {t e sz bytes : Nat} {z : Value} [T : TSlice P t e sz bytes z] [hE : Keeps w0 L Lw] (kk : ∀ g, OKx P n w0 (.seq Lw) ops K rest (updo F d (.slice (some ⟨g, 0, none⟩) 0 0)) (.row e sz (.slice (some ⟨g, 0, none⟩) 0 0) 0 [] :: L)) :
    OKx P n w0 (.seq Lw) ops K (⟨d, .buildSlice t 0 #[], ty, pos, aft, none⟩ :: rest) F L :=
  OKx_slit (sz := sz) [] rfl rfl rfl rfl rfl (by simp) kk
theorem OKx_slit1 {t e bytes : Nat} {z : Value} [T : TSlice P t e 1 bytes z] {x : Operand} {v : Value} [hE : Keeps w0 L Lw] (hx : rv n F x = v) (hc : v.cells = #[v]) (kk : ∀ g, OKx P n w0 (.seq Lw) ops K rest (updo F d (.slice (some ⟨g, 0, none⟩) 1 1)) (.row e 1 (.slice (some ⟨g, 0, none⟩) 1 1) 1 [v] :: L)) :
    OKx P n w0 (.seq Lw) ops K (⟨d, .buildSlice t 1 #[(0, x)], ty, pos, aft, none⟩ :: rest) F L :=
  OKx_slit (sz := 1) [v] rfl (by simp only [List.map]; rw [hx]) (by simp only [List.map]; rw [hc]) rfl rfl rfl kk
theorem OKx_slit1A {t e sz bytes : Nat} {z : Value} [T : TSlice P t e sz bytes z] {x : Operand} {cs : List Value} [hE : Keeps w0 L Lw] (hx : rv n F x = .agg cs.toArray) (hl : Nat.beq cs.length sz = true) (hb : Nat.ble (1 * sz) 16777216 = true) (kk : ∀ g, OKx P n w0 (.seq Lw) ops K rest (updo F d (.slice (some ⟨g, 0, none⟩) 1 1)) (.row e sz (.slice (some ⟨g, 0, none⟩) 1 1) 1 cs :: L)) :
    OKx P n w0 (.seq Lw) ops K (⟨d, .buildSlice t 1 #[(0, x)], ty, pos, aft, none⟩ :: rest) F L :=
  OKx_slit (sz := sz) (vs := [.agg cs.toArray]) (cs := [cs]) cs rfl (by simp only [List.map]; rw [hx]) (by simp only [List.map, Value.cells]) (by simp only [List.all_cons, List.all_nil, hl]; rfl) (by simp) hb kk
theorem OKx_make {l c : Operand} {t e bytes : Nat} {z : Value} [T : TSlice P t e 1 bytes z] {kl kc : IntKind} {N : Nat} [hE : Keeps w0 L Lw] (hl : rv n F l = .int kl (N : Int)) (hc : rv n F c = .int kc (N : Int)) (hz : z.cells = #[z]) (hb : bytes * N ≤ 281474976710656) (hn : N ≤ 9223372036854775807)
    (kk : ∀ g, OKx P n w0 (.seq Lw) ops K rest (updo F d (.slice (some ⟨g, 0, none⟩) N N)) (.row e 1 (.slice (some ⟨g, 0, none⟩) N N) N (List.replicate N z) :: L)) :
    OKx P n w0 (.seq Lw) ops K (⟨d, .makeSlice t l c, ty, pos, aft, none⟩ :: rest) F L := by
  refine OKx_actW hE.ent fun w a hfr hp => wp_of_list (ops := ops) rfl ?_
  obtain ⟨i0, hi0, hz0, hz1, hz2⟩ := info_parts T.ty.inf
  refine wpList_make_full w rfl l c t rfl w0.heap.size e i0 z 1 T.ty.und hi0 hz0 hz1 kl kc _ _ N (by rw [hfr.eval]; exact hl) (by rw [hfr.eval]; exact hc) rfl rfl (by rw [hz2]; exact hb) (by unfold maxLen;omega) hp.base ?_
  intro w' hown hg
  rw [hz, Nat.mul_one, toList_madeCells_one] at hown
  have hp' := hp.fresh (r := .row e 1 (.slice (some ⟨w.heap.size, 0, .none⟩) N N) N (List.replicate N z)) hown ⟨hg.os, hg.tape, hg.output, hg.size, fun k hk => hg.block k hk (by simp)⟩ (fun k hk => by simp [Res.blk, Value.ownBlock] at hk;omega)
  exact ⟨rfl, (kk w.heap.size).use w' _ (hfr.put d _) hp'⟩
theorem OKx_ldI {t : TypeId} {z : Value} [T : TOne P t z] {x : Operand} {g k : Nat} (i : Nat) {e : TypeId} {N cap : Nat} {xs : List Int} (hx : rv n F x = .pointer (some ⟨g, k, none⟩)) (hi : L[i]? = some (.row e 1 (.slice (some ⟨g, 0, none⟩) N cap) N (ints xs))) (hk : k < N)
    (kk : OKx P n w0 m ops K rest (updo F d (.int .i64 (xs.getD k 0))) L) : OKx P n w0 m ops K (⟨d, .load t x, ty, pos, aft, none⟩ :: rest) F L :=
  OKx_still (fun w hp _ _ _ _ => run_load1 T hx (((hp.rowAt i hi).1 k (by omega)).trans (by
    have ho : w.ownsRow w0.heap.size e 1 (.slice (some ⟨g, 0, none⟩) N cap) N (ints xs) := hp.ok _ (List.mem_of_getElem? hi)
    have hl := ho.1
    simp only [ints, List.length_map] at hl
    have : k < xs.length := by omega
    simp [ints, this])) _ _ _ _) kk
theorem OKx_stI {t : TypeId} {z : Value} [T : TOne P t z] {x y : Operand} {g k : Nat} {v : Int} [hE : Keeps w0 L Lw] (i : Nat) {e : TypeId} {N cap : Nat} {xs : List Int} {L' : List Res} (hx : rv n F x = .pointer (some ⟨g, k, none⟩)) (hy : rv n F y = .int .i64 v) (hi : L[i]? = some (.row e 1 (.slice (some ⟨g, 0, none⟩) N cap) N (ints xs))) (hk : k < N)
    (hL : L.set i (.row e 1 (.slice (some ⟨g, 0, none⟩) N cap) N (ints (xs.set k v))) = L') (kk : OKx P n w0 (.seq Lw) ops K rest (updo F d undef) L') : OKx P n w0 (.seq Lw) ops K (⟨d, .store t x y, ty, pos, aft, none⟩ :: rest) F L :=
  OKx_stW i hx hy rfl rfl hi hk (ints_set xs k v) hL kk
theorem OKx_stBo {t : TypeId} {z : Value} [T : TOne P t z] {x y : Operand} {g k : Nat} {v : Bool} [hE : Keeps w0 L Lw] (i : Nat) {e : TypeId} {N cap : Nat} {xs : List Bool} {L' : List Res} (hx : rv n F x = .pointer (some ⟨g, k, none⟩)) (hy : rv n F y = .bool v) (hi : L[i]? = some (.row e 1 (.slice (some ⟨g, 0, none⟩) N cap) N (bools xs))) (hk : k < N)
    (hL : L.set i (.row e 1 (.slice (some ⟨g, 0, none⟩) N cap) N (bools (xs.set k v))) = L') (kk : OKx P n w0 (.seq Lw) ops K rest (updo F d undef) L') : OKx P n w0 (.seq Lw) ops K (⟨d, .store t x y, ty, pos, aft, none⟩ :: rest) F L :=
  OKx_stW i hx hy rfl rfl hi hk (bools_set xs k v) hL kk
theorem OKx_ldBo {t : TypeId} {z : Value} [T : TOne P t z] {x : Operand} {g k : Nat} (i : Nat) {e : TypeId} {N cap : Nat} {xs : List Bool} (hx : rv n F x = .pointer (some ⟨g, k, none⟩)) (hi : L[i]? = some (.row e 1 (.slice (some ⟨g, 0, none⟩) N cap) N (bools xs))) (hk : k < N)
    (kk : OKx P n w0 m ops K rest (updo F d (.bool (xs.getD k false))) L) : OKx P n w0 m ops K (⟨d, .load t x, ty, pos, aft, none⟩ :: rest) F L :=
  OKx_still (fun w hp _ _ _ _ => run_load1 T hx (((hp.rowAt i hi).1 k (by omega)).trans (by
    have ho : w.ownsRow w0.heap.size e 1 (.slice (some ⟨g, 0, none⟩) N cap) N (bools xs) := hp.ok _ (List.mem_of_getElem? hi)
    have hl := ho.1
    simp only [bools, List.length_map] at hl
    have : k < xs.length := by omega
    simp [bools, this])) _ _ _ _) kk
def structOffs (P : Program) (t : TypeId) : Option (List (Nat × Nat)) :=
  match P.underlying t with
  | some (.struct fields) => fields.toList.mapM fun f => (P.info? f.type).map fun i => (f.offset, i.size)
  | _ => none
class TStruct (P : Program) (t : TypeId) (offs : outParam (List (Nat × Nat))) : Prop where
  at' : structOffs P t = some offs
theorem run_places (w : World) : ∀ (fs : List Field) (offs : List (Nat × Nat)), fs.mapM (fun f => (P.info? f.type).map fun i => (f.offset, i.size)) = some offs →
    (fs.mapM fun (f : Field) => (do pure (f.offset, ← sizeOf f.type) : Sem (Nat × Nat))).run P w = .ok offs w := by
  intro fs
  induction fs with
  | nil => intro offs h; simp at h; subst h; rfl
  | cons f fs ih =>
    intro offs h
    simp only [List.mapM_cons] at h
    cases hi : P.info? f.type with
    | none => rw [hi] at h; simp at h
    | some i =>
      rw [hi] at h
      cases hr : fs.mapM (fun f => (P.info? f.type).map fun i => (f.offset, i.size)) with
      | none => rw [hr] at h; simp at h
      | some r =>
        rw [hr] at h
        simp at h
        subst h
        have hs : (sizeOf f.type).run P w = .ok i.size w := by simp [sizeOf, typeInfo, program, Sem.run_bind, Sem.run, hi, Result.andThen]
        simp only [List.mapM_cons, Sem.run_bind, hs, Result.andThen, Sem.run_pure, ih r hr]
theorem fill_congr (p q : Nat → Option (Nat × Nat)) : ∀ (l : List (Nat × Value)) (acc : Array Value), (∀ x ∈ l, p x.1 = q x.1) → Instr.fill p acc l = Instr.fill q acc l := by
  intro l
  induction l with
  | nil => intro acc _; rfl
  | cons x l ih =>
    intro acc h
    have h0 := h x (by simp)
    obtain ⟨i, v⟩ := x
    simp only [Instr.fill]
    simp only at h0
    rw [h0]
    cases q i with
    | none => rfl
    | some pl =>
      simp only
      split
      · rfl
      · exact ih _ (fun y hy => h y (by simp [hy]))
theorem flat1 : ∀ vs : List Value, (vs.map fun v => [v]).flatten = vs
  | [] => rfl
  | v :: vs => by simp only [List.map_cons, List.flatten_cons, flat1 vs]; rfl
theorem run_build1 {t sz : Nat} {zs : List Value} (T : TAgg P t sz zs) {offs : List (Nat × Nat)} (S : TStruct P t offs) {parts : Array (Nat × Operand)} {vs : List Value} {ρ : Operand → Value} (ho : offs = (List.range vs.length).map fun i => (i, 1)) (hz : zs.length = vs.length)
    (hp : parts.toList.map (fun x => (x.1, ρ x.2)) = (vs.zipIdx 0).map fun x => (x.2, x.1)) (hc : ∀ v ∈ vs, v.cells = #[v]) (w : World) (dd : Option Nat) (p : String) (af : Array Edge) (g : Option (Nat × Bool)) :
    (execOp ρ ⟨dd, .build t parts, ty, p, af, g⟩).run P w = .ok (.value (.agg vs.toArray)) w := by
  have h0 := S.at'
  unfold structOffs at h0
  split at h0
  · rename_i fields hu
    have hund : (underlying t).run P w = .ok (.struct fields) w := by simp [underlying, program, Sem.run_bind, Sem.run, hu, Result.andThen]
    have hpl := run_places w fields.toList offs h0
    have hpl2 : (fields.mapM fun (f : Field) => (do pure (f.offset, ← sizeOf f.type) : Sem (Nat × Nat))).run P w = .ok offs.toArray w := by
      rw [Array.mapM_eq_mapM_toList]
      simp only [Sem.run_map, hpl, Result.andThen]
    have hparts : (parts.map fun x => (x.1, ρ x.2)).toList = (vs.zipIdx 0).map fun x => (x.2, x.1) := by rw [Array.toList_map, hp]
    have hmap : Array.map (fun x => match x with | (i, x) => (i, ρ x)) parts = parts.map fun x => (x.1, ρ x.2) := rfl
    have hcs : vs.map (fun v => v.cells.toList) = vs.map fun v => [v] := List.map_congr_left fun v hv => by rw [hc v hv]
    have hfl : (vs.map fun v => [v]).flatten = vs := flat1 vs
    have hfill : Instr.fill (offs.toArray[·]?) zs.toArray (parts.map fun x => (x.1, ρ x.2)).toList = some vs.toArray := by
      rw [hparts, fill_congr _ (fun i => some (i * 1, 1))]
      · rw [fillS 1 (vs.map fun v => [v]) vs 0 zs hcs (by simp) (by simp [hz])]
        simp [hfl]
      · intro x hx
        simp only [List.mem_map] at hx
        obtain ⟨y, hy, rfl⟩ := hx
        have hlt : y.2 < vs.length := by
          have := List.mem_zipIdx hy
          omega
        simp [ho, hlt]
    simp only [execOp, hmap, Instr.build, Sem.run_bind, T.zero, Result.andThen, Value.cells, hund, hpl2, hfill, Sem.run_pure]
  · cases h0
theorem OKx_build2 {t sz : Nat} {z1 z2 : Value} [T : TAgg P t sz [z1, z2]] [S : TStruct P t [(0, 1), (1, 1)]] {x1 x2 : Operand} {v1 v2 : Value} (h1 : rv n F x1 = v1) (h2 : rv n F x2 = v2) (c1 : v1.cells = #[v1]) (c2 : v2.cells = #[v2])
    (k : OKx P n w0 m ops K rest (updo F d (.agg #[v1, v2])) L) : OKx P n w0 m ops K (⟨d, .build t #[(0, x1), (1, x2)], ty, pos, aft, none⟩ :: rest) F L :=
  OKx_still (fun w _ _ _ _ _ => run_build1 T S (vs := [v1, v2]) rfl rfl (by simp [h1, h2]) (by simp [c1, c2]) w _ _ _ _) k
theorem Hp.setBoxAll {B : Nat} {w0 w : World} (h : Hp B w0 w L) {i : Nat} {e : TypeId} {g : Nat} {cs : List Value} (hi : L[i]? = some (.box e g cs)) (cs' : List Value) (hl : cs'.length = cs.length) :
    Hp B w0 (w.setRow g cs'.toArray) (L.set i (.box e g cs')) := by
  have ho : B ≤ g ∧ w.heap[g]? = some (.cells cs.toArray e (0, 0)) := h.ok _ (List.mem_of_getElem? hi)
  exact h.turn hi (r' := .box e g cs') ⟨rfl, rfl, rfl, by simp, fun k _ hk => setRow_other w g k _ (fun e => hk (by simp [Res.blk, e]))⟩ ⟨ho.1, setRow_heap w g cs.toArray _ e _ ho.2⟩ (fun k hk => .inl hk)
theorem OKx_stBA {t sz : Nat} {zs : List Value} [T : TAgg P t sz zs] [hE : Keeps w0 L Lw] (hsz : (P.info? t).map (·.size) = some sz) {x y : Operand} {g : Nat} {cs' : Array Value} (i : Nat) {e : TypeId} {cs : List Value} {L' : List Res} (hx : rv n F x = .pointer (some ⟨g, 0, none⟩)) (hy : rv n F y = .agg cs') (h1 : cs'.toList.all (·.oneCell') = true) (hi : L[i]? = some (.box e g cs)) (hl : Nat.beq cs'.toList.length cs.length = true) (hl2 : Nat.beq cs'.toList.length sz = true)
    (hL : L.set i (.box e g cs'.toList) = L') (kk : OKx P n w0 (.seq Lw) ops K rest (updo F d undef) L') : OKx P n w0 (.seq Lw) ops K (⟨d, .store t x y, ty, pos, aft, none⟩ :: rest) F L := by
  subst hL
  have hl' := Nat.eq_of_beq_eq_true hl
  have hl2' := Nat.eq_of_beq_eq_true hl2
  refine OKx_actW hE.ent fun w a hfr hp => ?_
  have ho : w0.heap.size ≤ g ∧ w.heap[g]? = some (.cells cs.toArray e (0, 0)) := hp.ok _ (List.mem_of_getElem? hi)
  refine wp_store_row t x y rfl g cs' (by rw [hfr.eval]; exact hx) (by rw [hfr.eval]; exact hy) e cs.toArray ho.2 (by rw [hsz, ← hl2']; simp) (by simp only [List.size_toArray]; rw [← hl']; simp) (by rw [← h1]; simp) ?_
  refine kk.use _ _ (hfr.put d _) ?_
  have := hp.setBoxAll hi cs'.toList hl'
  simpa using this
theorem OKx_slit2 {t e bytes : Nat} {z : Value} [T : TSlice P t e 1 bytes z] {x1 x2 : Operand} {v1 v2 : Value} [hE : Keeps w0 L Lw] (h1 : rv n F x1 = v1) (h2 : rv n F x2 = v2) (c1 : v1.cells = #[v1]) (c2 : v2.cells = #[v2]) (kk : ∀ g, OKx P n w0 (.seq Lw) ops K rest (updo F d (.slice (some ⟨g, 0, none⟩) 2 2)) (.row e 1 (.slice (some ⟨g, 0, none⟩) 2 2) 2 [v1, v2] :: L)) :
    OKx P n w0 (.seq Lw) ops K (⟨d, .buildSlice t 2 #[(0, x1), (1, x2)], ty, pos, aft, none⟩ :: rest) F L :=
  OKx_slit (sz := 1) (vs := [v1, v2]) (cs := [[v1], [v2]]) [v1, v2] rfl (by simp [h1, h2]) (by simp [c1, c2]) rfl rfl rfl kk
def bodyC (n : Nat) (w0 : World) (t sz : Nat) (R : Value → List Res → Prop) : Exit → Fm → List Res → Prop
  | .ret, F, L => marksV (F none) = [] ∧ ∃ (g i e : Nat) (cs : List Value) (L' : List Res), rv n F (.tmp t) = .pointer (some ⟨g, 0, none⟩) ∧ L[i]? = some (.box e g cs) ∧ cs.length = sz ∧ Ent w0 L L' ∧ R (.agg cs.toArray) L'
  | _, _, _ => False
theorem bodyC_r {t sz : Nat} {R : Value → List Res → Prop} {g : Nat} (i : Nat) {e : TypeId} {cs : List Value} (h1 : rv n F (.tmp t) = .pointer (some ⟨g, 0, none⟩)) (h2 : L[i]? = some (.box e g cs)) (h3 : cs.length = sz) (h : ∃ L', Ent w0 L L' ∧ R (.agg cs.toArray) L') (hm : marksV (F none) = [] := by exact rfl) : bodyC n w0 t sz R .ret F L :=
  let ⟨L', a, b⟩ := h
  ⟨hm, g, i, e, cs, L', h1, h2, h3, a, b⟩
theorem SatL.ofC {f : FuncId} {fn : Func} {c : Code} {args : List Value} {R : Value → List Res → Prop} (N : Nat) (t tt sz : Nat) {zs : List Value} [T : TAgg P tt sz zs] (hf : P.funcs[f]? = some fn) (hN : fn.ntmps = N) (hnm : (fn.name == "runtime.NumGoroutine") = false) (hb : fn.body = some c)
    (hres : fn.results = #[.cell t tt]) (hlen : Nat.ble args.length N = true) (h : OK P N w0 (bodyC N w0 t sz R) c (argF args) L) : SatL P f args w0 L R := by
  refine ⟨⟨fn, c, hf, hnm, hb⟩, fun w hp => ?_⟩
  refine calls_of_wp hf hb ?_
  subst hN
  have hlen' : args.length ≤ fn.ntmps := by rwa [Nat.ble_eq] at hlen
  have hfr : Fr fn.ntmps { tmps := args.toArray ++ Array.replicate (fn.ntmps - args.toArray.size) undef, defers := [] } (argF args) := by
    refine ⟨rfl, by simp;omega, fun t ht => ?_⟩
    simp only [Array.getD_eq_getD_getElem?, argF, List.getD_eq_getElem?_getD]
    by_cases h : t < args.length
    · rw [Array.getElem?_append_left (by simpa using h)]
      simp
    · rw [Array.getElem?_append_right (by simpa using Nat.le_of_not_lt h), List.getElem?_eq_none (by omega)]
      simp only [List.size_toArray, Array.getElem?_replicate]
      split <;> rfl
  refine wp_mono (h.use w _ hfr hp) ?_
  rintro e a' w' ⟨F', L', h1, h2, h3⟩
  cases e with
  | ret =>
    obtain ⟨hm, g, i, e, cs, L'', hr, hi, hl, hent, hR⟩ := h3
    refine ⟨h1.defers.trans hm, _, ?_, _, L'', rfl, hent.use _ h2, hR⟩
    have he : a'.tmps.getD t undef = .pointer (some ⟨g, 0, none⟩) := (congrFun h1.eval (.tmp t)).trans hr
    have hld : (loadVar tt ⟨g, 0, none⟩).run P w' = .ok (.agg cs.toArray) w' := by
      subst hl
      have := run_cells (P := P) (a := ⟨g, 0, none⟩) (w := w') cs 0 #[] (fun j hj => by rw [Nat.zero_add, add_at, Nat.zero_add]; exact (h2.boxAt i hi).1 j)
      simp [loadVar, Sem.run_bind, T.agg, T.size, Result.andThen, loadCells, this]
    have he2 : a'.tmps[t]?.getD undef = .pointer (some ⟨g, 0, none⟩) := by rw [← he]; simp
    simp [results, hres, he2, asAddr, Sem.run_bind, Sem.run_map, hld, Result.andThen]
  | _ => exact h3.elim
end
attribute [irreducible] bodyC
end Go.Proofs.YthnlnffmmioapaaGreatDoor
