/-
  Part 6 of the proof: Bit, Ari, Bw, Lt, Arr, Ga, Pm07, Kind, Pl07. No statement of the seat is proved here.
-/
import Derived.Test.YthnlnffmmioapaaGreatDoorMHCl275
import Derived.Laws.Shifts
import Derived.Laws.Bits64
import Derived.Laws.BitsAllLaws
import Derived.Test.YthnlnffmmioapaaGreatDoorRows
import Derived.WalkKit
import Derived.WalkSpells
import Derived.WalkLawsBesides
import Derived.Lib.Hide
namespace Go.Proofs.YthnlnffmmioapaaGreatDoor
open Go.RowKit
section
variable {P : Program} {n : Nat} {w0 : World} {K : Fm → List Res → Prop} {F : Fm} {L : List Res} {m : Md} {ops : Array Oper} {rest : List Oper} {d : Option Nat} {ty : TypeId} {pos : String} {aft : Array Edge}
theorem OKx_shr {t ut : TypeId} {x y : Operand} {k yk : IntKind} {a b : Int} (hx : rv n F x = .int k a) (hy : rv n F y = .int yk b) (h0 : 0 ≤ b)
    (kk : OKx P n w0 m ops K rest (updo F d (.int k (a / 2 ^ min b.toNat k.bits))) L) : OKx P n w0 m ops K (⟨d, .binOp .shr t x y ut, ty, pos, aft, none⟩ :: rest) F L :=
  OKx_still (fun w _ _ _ _ _ => by
    have h1 : (eqGuard .shr t x y (.int k a) (.int yk b)).run P w = .ok () w := rfl
    have h2 : (binOp .shr t (.int k a) (.int yk b)).run P w = .ok (.int k (a / 2 ^ min b.toNat k.bits)) w := by
      show (Op.shift .shr k a yk b).run P w = _
      rw [shift_shr_any k yk a b h0]; rfl
    simp [execOp, hx, hy, Sem.run_bind, h1, h2, Result.andThen]) kk
theorem OKx_shl {t ut : TypeId} {x y : Operand} {k yk : IntKind} {a b : Int} (hx : rv n F x = .int k a) (hy : rv n F y = .int yk b) (h0 : 0 ≤ b)
    (kk : OKx P n w0 m ops K rest (updo F d (.int k (k.wrap (a * 2 ^ min b.toNat k.bits)))) L) : OKx P n w0 m ops K (⟨d, .binOp .shl t x y ut, ty, pos, aft, none⟩ :: rest) F L :=
  OKx_still (fun w _ _ _ _ _ => by
    have h1 : (eqGuard .shl t x y (.int k a) (.int yk b)).run P w = .ok () w := rfl
    have h2 : (binOp .shl t (.int k a) (.int yk b)).run P w = .ok (.int k (k.wrap (a * 2 ^ min b.toNat k.bits))) w := by
      show (Op.shift .shl k a yk b).run P w = _
      rw [shift_shl_any k yk a b h0]; rfl
    simp [execOp, hx, hy, Sem.run_bind, h1, h2, Result.andThen]) kk
def andK (k : IntKind) (a b : Int) : Int := k.wrap ((BitVec.ofInt k.bits a &&& BitVec.ofInt k.bits b).toNat : Int)
def orK (k : IntKind) (a b : Int) : Int := k.wrap ((BitVec.ofInt k.bits a ||| BitVec.ofInt k.bits b).toNat : Int)
theorem OKx_and {t ut : TypeId} {x y : Operand} {k : IntKind} {a b : Int} (hx : rv n F x = .int k a) (hy : rv n F y = .int k b)
    (kk : OKx P n w0 m ops K rest (updo F d (.int k (andK k a b))) L) : OKx P n w0 m ops K (⟨d, .binOp .and t x y ut, ty, pos, aft, none⟩ :: rest) F L :=
  OKx_still (fun w _ _ _ _ _ => run_int .and t x y k a b (by decide) w ut _ _ _ _ _ hx hy rfl) kk
theorem OKx_or {t ut : TypeId} {x y : Operand} {k : IntKind} {a b : Int} (hx : rv n F x = .int k a) (hy : rv n F y = .int k b)
    (kk : OKx P n w0 m ops K rest (updo F d (.int k (orK k a b))) L) : OKx P n w0 m ops K (⟨d, .binOp .or t x y ut, ty, pos, aft, none⟩ :: rest) F L :=
  OKx_still (fun w _ _ _ _ _ => run_int .or t x y k a b (by decide) w ut _ _ _ _ _ hx hy rfl) kk
end
end Go.Proofs.YthnlnffmmioapaaGreatDoor
namespace Go.Proofs.YthnlnffmmioapaaGreatDoor
open Go.RowKit
section
variable {P : Program} {n : Nat} {w0 : World} {K : Fm → List Res → Prop} {F : Fm} {L : List Res} {m : Md} {ops : Array Oper} {rest : List Oper} {d : Option Nat} {ty : TypeId} {pos : String} {aft : Array Edge}
theorem OKx_addK {t ut : TypeId} {x y : Operand} {k : IntKind} {a b r : Int} (hx : rv n F x = .int k a) (hy : rv n F y = .int k b) (hr : k.wrap (a + b) = r)
    (kk : OKx P n w0 m ops K rest (updo F d (.int k r)) L) : OKx P n w0 m ops K (⟨d, .binOp .add t x y ut, ty, pos, aft, none⟩ :: rest) F L := by
  subst hr
  exact OKx_still (fun w _ _ _ _ _ => run_int .add t x y k a b (by decide) w ut _ _ _ _ _ hx hy (by simp [Op.intArith])) kk
theorem OKx_subK {t ut : TypeId} {x y : Operand} {k : IntKind} {a b r : Int} (hx : rv n F x = .int k a) (hy : rv n F y = .int k b) (hr : k.wrap (a - b) = r)
    (kk : OKx P n w0 m ops K rest (updo F d (.int k r)) L) : OKx P n w0 m ops K (⟨d, .binOp .sub t x y ut, ty, pos, aft, none⟩ :: rest) F L := by
  subst hr
  exact OKx_still (fun w _ _ _ _ _ => run_int .sub t x y k a b (by decide) w ut _ _ _ _ _ hx hy (by simp [Op.intArith])) kk
end
theorem wrapU (n : Int) (h : 0 ≤ n ∧ n < 18446744073709551616) : IntKind.u64.wrap n = n := by rw [IntKind.wrap_u64];omega
end Go.Proofs.YthnlnffmmioapaaGreatDoor
namespace Go.Proofs.YthnlnffmmioapaaGreatDoor
open Go.RowKit
theorem orK_nat (a b : Nat) (ha : a < 18446744073709551616) (hb : b < 18446744073709551616) : orK .u64 (a : Int) (b : Int) = ((a ||| b : Nat) : Int) := by
  have h : a ||| b < 2 ^ 64 := Nat.or_lt_two_pow ha hb
  unfold orK
  have e : ∀ n : Nat, n < 18446744073709551616 → (BitVec.ofInt IntKind.u64.bits (n : Int)).toNat = n := fun n hn => by
    show (BitVec.ofInt 64 (n : Int)).toNat = n
    rw [BitVec.toNat_ofInt]
    omega
  rw [BitVec.toNat_or, e a ha, e b hb, wrapU _ (by omega)]
theorem andK_one (a : Nat) (ha : a < 18446744073709551616) : andK .u64 (a : Int) 1 = ((a % 2 : Nat) : Int) := by
  unfold andK
  have e : ∀ n : Nat, n < 18446744073709551616 → (BitVec.ofInt IntKind.u64.bits (n : Int)).toNat = n := fun n hn => by
    show (BitVec.ofInt 64 (n : Int)).toNat = n
    rw [BitVec.toNat_ofInt]
    omega
  have e1 := e 1 (by decide)
  rw [BitVec.toNat_and, e a ha, show (BitVec.ofInt IntKind.u64.bits (1 : Int)).toNat = 1 from e1, Nat.and_one_is_mod, wrapU _ (by omega)]
section
variable {P : Program} {n : Nat} {w0 : World} {K : Fm → List Res → Prop} {F : Fm} {L : List Res} {m : Md} {ops : Array Oper} {rest : List Oper} {d : Option Nat} {ty : TypeId} {pos : String} {aft : Array Edge}
theorem OKx_shlN {t ut : TypeId} {x y : Operand} {i : Nat} {yk : IntKind} (hx : rv n F x = .int .u64 1) (hy : rv n F y = .int yk (i : Int)) (hi : i < 64)
    (kk : OKx P n w0 m ops K rest (updo F d (.int .u64 ((2 ^ i : Nat) : Int))) L) : OKx P n w0 m ops K (⟨d, .binOp .shl t x y ut, ty, pos, aft, none⟩ :: rest) F L := by
  refine OKx_shl hx hy (by omega) ?_
  have h2 : (2 : Nat) ^ i < 2 ^ 64 := Nat.pow_lt_pow_right (by decide) hi
  have h3 : ((2 ^ i : Nat) : Int) = (2 : Int) ^ i := Int.natCast_pow 2 i
  have e : IntKind.u64.wrap (1 * 2 ^ min ((i : Int).toNat) IntKind.u64.bits) = ((2 ^ i : Nat) : Int) := by
    rw [Int.toNat_natCast, Nat.min_eq_left (show i ≤ IntKind.u64.bits by show i ≤ 64;omega), Int.one_mul, ← h3, wrapU _ ⟨Int.natCast_nonneg _, Int.ofNat_lt.2 h2⟩]
  rw [e]; exact kk
theorem OKx_shrN {t ut : TypeId} {x y : Operand} {a i : Nat} {yk : IntKind} (hx : rv n F x = .int .u64 (a : Int)) (hy : rv n F y = .int yk (i : Int)) (hi : i < 64)
    (kk : OKx P n w0 m ops K rest (updo F d (.int .u64 ((a / 2 ^ i : Nat) : Int))) L) : OKx P n w0 m ops K (⟨d, .binOp .shr t x y ut, ty, pos, aft, none⟩ :: rest) F L := by
  refine OKx_shr hx hy (by omega) ?_
  have e : (a : Int) / 2 ^ min ((i : Int).toNat) IntKind.u64.bits = ((a / 2 ^ i : Nat) : Int) := by
    rw [Int.toNat_natCast, Nat.min_eq_left (show i ≤ IntKind.u64.bits by show i ≤ 64;omega), Int.natCast_ediv, Int.natCast_pow]
    rfl
  rw [e]; exact kk
theorem OKx_orN {t ut : TypeId} {x y : Operand} {a b : Nat} (hx : rv n F x = .int .u64 (a : Int)) (hy : rv n F y = .int .u64 (b : Int)) (ha : a < 18446744073709551616) (hb : b < 18446744073709551616)
    (kk : OKx P n w0 m ops K rest (updo F d (.int .u64 ((a ||| b : Nat) : Int))) L) : OKx P n w0 m ops K (⟨d, .binOp .or t x y ut, ty, pos, aft, none⟩ :: rest) F L := by
  refine OKx_or hx hy ?_
  rw [orK_nat a b ha hb]; exact kk
theorem OKx_and1 {t ut : TypeId} {x y : Operand} {a : Nat} (hx : rv n F x = .int .u64 (a : Int)) (hy : rv n F y = .int .u64 1) (ha : a < 18446744073709551616)
    (kk : OKx P n w0 m ops K rest (updo F d (.int .u64 ((a % 2 : Nat) : Int))) L) : OKx P n w0 m ops K (⟨d, .binOp .and t x y ut, ty, pos, aft, none⟩ :: rest) F L := by
  refine OKx_and hx hy ?_
  rw [andK_one a ha]; exact kk
end
theorem lo_or (m k : Nat) (hk : k < 64) : (m ||| 2 ^ k) % 18446744073709551616 = m % 18446744073709551616 ||| 2 ^ k ∧ (m ||| 2 ^ k) / 18446744073709551616 = m / 18446744073709551616 := by
  have e : (18446744073709551616 : Nat) = 2 ^ 64 := rfl
  rw [e]
  constructor
  · refine Nat.eq_of_testBit_eq fun j => ?_
    rw [Nat.testBit_mod_two_pow, Nat.testBit_or, Nat.testBit_or, Nat.testBit_mod_two_pow, Nat.testBit_two_pow]
    by_cases hj : j < 64
    · rw [decide_eq_true hj, Bool.true_and, Bool.true_and]
    · have : decide (k = j) = false := decide_eq_false (by omega)
      rw [decide_eq_false hj, Bool.false_and, Bool.false_and, this]; rfl
  · refine Nat.eq_of_testBit_eq fun j => ?_
    have : decide (k = j + 64) = false := decide_eq_false (by omega)
    rw [Nat.testBit_div_two_pow, Nat.testBit_or, Nat.testBit_two_pow, this, Bool.or_false, Nat.testBit_div_two_pow]
theorem hi_or (m k : Nat) (hk : 64 ≤ k) : (m ||| 2 ^ k) % 18446744073709551616 = m % 18446744073709551616 ∧ (m ||| 2 ^ k) / 18446744073709551616 = m / 18446744073709551616 ||| 2 ^ (k - 64) := by
  have e : (18446744073709551616 : Nat) = 2 ^ 64 := rfl
  rw [e]
  constructor
  · refine Nat.eq_of_testBit_eq fun j => ?_
    rw [Nat.testBit_mod_two_pow, Nat.testBit_or, Nat.testBit_two_pow, Nat.testBit_mod_two_pow]
    by_cases hj : j < 64
    · have : decide (k = j) = false := decide_eq_false (by omega)
      rw [this, Bool.or_false]
    · rw [decide_eq_false hj, Bool.false_and, Bool.false_and]
  · refine Nat.eq_of_testBit_eq fun j => ?_
    rw [Nat.testBit_div_two_pow, Nat.testBit_or, Nat.testBit_two_pow, Nat.testBit_or, Nat.testBit_div_two_pow, Nat.testBit_two_pow]
    congr 1
    exact decide_eq_decide.2 (by omega)
theorem lo_bit (m k : Nat) (hk : k < 64) : m.testBit k = decide (m % 18446744073709551616 / 2 ^ k % 2 = 1) := by
  rw [← Nat.testBit_eq_decide_div_mod_eq, show (18446744073709551616 : Nat) = 2 ^ 64 from rfl, Nat.testBit_mod_two_pow, decide_eq_true hk, Bool.true_and]
theorem hi_bit (m k : Nat) (hk : 64 ≤ k) : m.testBit k = decide (m / 18446744073709551616 / 2 ^ (k - 64) % 2 = 1) := by
  rw [← Nat.testBit_eq_decide_div_mod_eq, show (18446744073709551616 : Nat) = 2 ^ 64 from rfl, Nat.testBit_div_two_pow, show k - 64 + 64 = k by omega]
end Go.Proofs.YthnlnffmmioapaaGreatDoor
namespace Go.Proofs.YthnlnffmmioapaaGreatDoor
open Go.RowKit
section
variable {P : Program} {n : Nat} {w0 : World} {K : Fm → List Res → Prop} {F : Fm} {L : List Res} {m : Md} {Lw : List Res} {ops : Array Oper} {rest : List Oper}
  {d : Option Nat} {ty : TypeId} {pos : String} {aft : Array Edge}
theorem max2_run {k : IntKind} {a b : Int} {w : World} : (Builtin.max2 (.int k a) (.int k b)).run P w = .ok (.int k (max a b)) w := by
  have e : (if b > a then b else a) = max a b := by split <;> omega
  simp [Builtin.max2, e]
theorem OKx_max4 {x1 x2 x3 x4 : Operand} {tt : Array TypeId} {k : IntKind} {a b c e r : Int} (h1 : rv n F x1 = .int k a) (h2 : rv n F x2 = .int k b) (h3 : rv n F x3 = .int k c) (h4 : rv n F x4 = .int k e) (hr : max (max (max a b) c) e = r)
    (kk : OKx P n w0 m ops K rest (updo F d (.int k r)) L) : OKx P n w0 m ops K (⟨d, .call { callee := .builtin .max, args := #[x1, x2, x3, x4], argTypes := tt }, ty, pos, aft, none⟩ :: rest) F L := by
  subst hr
  refine OKx_still (fun w _ _ _ _ _ => ?_) kk
  simp [execOp, resolve, invoke, builtin, h1, h2, h3, h4, Builtin.max_, max2_run, Sem.run_bind, Result.andThen]
theorem OKx_idxOn {t e sz bytes : Nat} {z : Value} [T : TSlice P t e sz bytes z] {x ix : Operand} {g N cap : Nat} {k : IntKind} {i : Nat} (hx : rv n F x = .slice (some ⟨g, 0, none⟩) N cap) (hix : rv n F ix = .int k (i : Int)) (h1 : i < N)
    (kk : OKx P n w0 m ops K rest (updo F d (.pointer (some ⟨g, i * sz, none⟩))) L) : OKx P n w0 m ops K (⟨d, .indexAddr t x ix, ty, pos, aft, none⟩ :: rest) F L :=
  OKx_still (fun w _ _ _ _ _ => by
    have := run_index T hx hix (by omega) (by omega) w (ty := ty)
    simp only [Int.toNat_natCast, Nat.zero_add] at this
    exact this _ _ _ _) kk
end
section
variable {B : Nat} {w0 w : World} {L : List Res}
def strs (xs : List ByteArray) : List Value := xs.map Value.string
theorem Hp.strs (h : Hp B w0 w L) (i : Nat) {e : TypeId} {n : Nat} {v : Value} {xs : List ByteArray} (hi : L[i]? = some (.row e 1 v n (strs xs))) (hn : n ≤ 140737488355328) (hs : ∀ s ∈ xs, s.size ≤ 140737488355328) : Strs w v xs := by
  have ho : w.ownsRow B e 1 v n (Go.Proofs.YthnlnffmmioapaaGreatDoor.strs xs) := h.ok _ (List.mem_of_getElem? hi)
  have hl := ho.1
  simp only [Go.Proofs.YthnlnffmmioapaaGreatDoor.strs, List.length_map, Nat.mul_one] at hl
  subst hl
  refine ⟨h.sl i hi hn fun j hj => ?_, hs⟩
  have hj' : j < xs.length := by omega
  simp [Go.Proofs.YthnlnffmmioapaaGreatDoor.strs, hj']
end
end Go.Proofs.YthnlnffmmioapaaGreatDoor
namespace Go.Proofs.YthnlnffmmioapaaGreatDoor
open Go.RowKit
section
variable {P : Program} {n : Nat} {w0 : World} {K : Fm → List Res → Prop} {F : Fm} {L : List Res} {m : Md} {Lw : List Res} {ops : Array Oper} {rest : List Oper}
  {d : Option Nat} {ty : TypeId} {pos : String} {aft : Array Edge}
theorem OKx_idxA {t len e : Nat} {z : Value} [T : TOne P e z] (hu : P.underlying t = some (.array len e)) {x ix : Operand} {g o : Nat} {k : IntKind} {i : Nat} (hx : rv n F x = .pointer (some ⟨g, o, none⟩)) (hix : rv n F ix = .int k (i : Int)) (h1 : i < len)
    (kk : OKx P n w0 m ops K rest (updo F d (.pointer (some ⟨g, o + i, none⟩))) L) : OKx P n w0 m ops K (⟨d, .indexAddr t x ix, ty, pos, aft, none⟩ :: rest) F L :=
  OKx_still (fun w _ _ _ _ _ => by
    have hu' : (underlying t).run P w = .ok (.array len e) w := by simp [underlying, program, Sem.run_bind, Sem.run, hu, Result.andThen]
    simp [execOp, Instr.indexAt, hx, hix, asIntOf, Sem.run_bind, hu', T.size, Result.andThen, Instr.sureAddr, h1, add_at]) kk
theorem OKx_idxAz {t len e : Nat} {z : Value} [T : TOne P e z] (hu : P.underlying t = some (.array len e)) {x ix : Operand} {g o : Nat} {k : IntKind} {i : Int} (hx : rv n F x = .pointer (some ⟨g, o, none⟩)) (hix : rv n F ix = .int k i) (h0 : 0 ≤ i) (h1 : i < len)
    (kk : OKx P n w0 m ops K rest (updo F d (.pointer (some ⟨g, o + i.toNat, none⟩))) L) : OKx P n w0 m ops K (⟨d, .indexAddr t x ix, ty, pos, aft, none⟩ :: rest) F L := by
  obtain ⟨j, rfl⟩ := Int.eq_ofNat_of_zero_le h0
  exact OKx_idxA hu hx hix (by omega) kk
end
end Go.Proofs.YthnlnffmmioapaaGreatDoor
namespace Go.Proofs.YthnlnffmmioapaaGreatDoor
open Go.RowKit
section
variable {P : Program} {n : Nat} {w0 : World} {K : Fm → List Res → Prop} {F : Fm} {L : List Res} {m : Md} {ops : Array Oper} {rest : List Oper} {d : Option Nat} {ty : TypeId} {pos : String} {aft : Array Edge}
theorem OKx_fldRA {s f off t : Nat} [T : TFld P s f off t] {x : Operand} {v : Value} {sz len : Nat} {g : Nat → Value} (hx : rv n F x = v) (hv : Pt w0 v sz g) (ho : off + len ≤ sz) (k : ∀ p, Pt w0 p len (fun j => g (off + j)) → OKx P n w0 m ops K rest (updo F d p) L) : OKx P n w0 m ops K (⟨d, .fieldAddr s x f, ty, pos, aft, none⟩ :: rest) F L := by
  obtain ⟨b, o, rfl, hc⟩ := hv
  exact OKx_still (fun w _ _ _ _ _ => run_fieldAddr T hx w _ _ _ _) (k _ ⟨b, o + off, rfl, fun j hj => by rw [Nat.add_assoc]; exact hc (off + j) (by omega)⟩)
theorem OKx_idxAR {t len e : Nat} {z : Value} [T : TOne P e z] (hu : P.underlying t = some (.array len e)) {x ix : Operand} {v : Value} {g : Nat → Value} {k : IntKind} {i : Nat} (hx : rv n F x = v) (hv : Pt w0 v len g) (hix : rv n F ix = .int k (i : Int)) (h1 : i < len)
    (kk : ∀ p, Pt1 w0 p (g i) → OKx P n w0 m ops K rest (updo F d p) L) : OKx P n w0 m ops K (⟨d, .indexAddr t x ix, ty, pos, aft, none⟩ :: rest) F L := by
  obtain ⟨b, o, rfl, hc⟩ := hv
  exact OKx_idxA hu hx hix h1 (kk _ ⟨b, o + i, rfl, hc i h1⟩)
theorem OKx_build0A {t len e sz : Nat} {zs : List Value} {z : Value} [A : TAgg P t sz zs] [T : TOne P e z] (hu : P.underlying t = some (.array len e)) (k : OKx P n w0 m ops K rest (updo F d (.agg zs.toArray)) L) : OKx P n w0 m ops K (⟨d, .build t #[], ty, pos, aft, none⟩ :: rest) F L :=
  OKx_still (fun w _ _ _ _ _ => by
    have hu' : (underlying t).run P w = .ok (.array len e) w := by simp [underlying, program, Sem.run_bind, Sem.run, hu, Result.andThen]
    simp [execOp, Instr.build, Sem.run_bind, A.zero, Result.andThen, Value.cells, hu', T.size, Instr.fill, Sem.run_pure]) k
end
end Go.Proofs.YthnlnffmmioapaaGreatDoor
namespace Go.Proofs.YthnlnffmmioapaaGreatDoor
open Go.RowKit
abbrev Elc := Option (UInt8 → Bool)
inductive Mt : List Elc → List UInt8 → Prop
  | nil : Mt [] []
  | star0 {l : List Elc} {w : List UInt8} : Mt l w → Mt (none :: l) w
  | star1 {l : List Elc} {w : List UInt8} {c : UInt8} : Mt (none :: l) w → Mt (none :: l) (c :: w)
  | set {f : UInt8 → Bool} {l : List Elc} {w : List UInt8} {c : UInt8} : f c = true → Mt l w → Mt (some f :: l) (c :: w)
theorem Mt_nil (w : List UInt8) : Mt [] w ↔ w = [] := ⟨fun h => by cases h; rfl, fun h => by rw [h]; exact .nil⟩
theorem Mt_set (f : UInt8 → Bool) (l : List Elc) (w : List UInt8) : Mt (some f :: l) w ↔ ∃ c u, w = c :: u ∧ f c = true ∧ Mt l u := by
  constructor
  · intro h; cases h with
    | set hc hl => exact ⟨_, _, rfl, hc, hl⟩
  · rintro ⟨c, u, rfl, hc, hl⟩; exact .set hc hl
theorem Mt_star_of {l : List Elc} (u : List UInt8) {w : List UInt8} (h : Mt l w) : Mt (none :: l) (u ++ w) := by
  induction u with
  | nil => exact .star0 h
  | cons c u ih => exact .star1 ih
theorem Mt_star (l : List Elc) (w : List UInt8) : Mt (none :: l) w ↔ ∃ u v, w = u ++ v ∧ Mt l v := by
  constructor
  · intro h
    generalize hx : (none :: l) = x at h
    induction h with
    | nil => cases hx
    | star0 h _ => cases hx; exact ⟨[], _, rfl, h⟩
    | @star1 l' w c h ih =>
      cases hx
      obtain ⟨u, v, e, hv⟩ := ih rfl
      exact ⟨c :: u, v, by rw [e]; rfl, hv⟩
    | set _ _ _ => cases hx
  · rintro ⟨u, v, rfl, h⟩; exact Mt_star_of u h
theorem Mt_append (a b : List Elc) (w : List UInt8) : Mt (a ++ b) w ↔ ∃ u v, w = u ++ v ∧ Mt a u ∧ Mt b v := by
  induction a generalizing w with
  | nil =>
    constructor
    · intro h; exact ⟨[], w, rfl, .nil, h⟩
    · rintro ⟨u, v, rfl, h1, h2⟩
      rw [Mt_nil] at h1; subst h1; exact h2
  | cons x a ih =>
    rw [List.cons_append]
    cases x with
    | none =>
      rw [Mt_star]
      constructor
      · rintro ⟨u, v, rfl, h⟩
        obtain ⟨u2, v2, rfl, h1, h2⟩ := (ih v).1 h
        exact ⟨u ++ u2, v2, by rw [List.append_assoc], Mt_star_of u h1, h2⟩
      · rintro ⟨u, v, rfl, h1, h2⟩
        obtain ⟨u1, u2, rfl, h3⟩ := (Mt_star a u).1 h1
        exact ⟨u1, u2 ++ v, by rw [List.append_assoc], (ih _).2 ⟨u2, v, rfl, h3, h2⟩⟩
    | some f =>
      rw [Mt_set]
      constructor
      · rintro ⟨c, u, rfl, hc, h⟩
        obtain ⟨u2, v2, rfl, h1, h2⟩ := (ih u).1 h
        exact ⟨c :: u2, v2, rfl, .set hc h1, h2⟩
      · rintro ⟨u, v, rfl, h1, h2⟩
        obtain ⟨c, u2, rfl, hc, h3⟩ := (Mt_set f a u).1 h1
        exact ⟨c, u2 ++ v, rfl, hc, (ih _).2 ⟨u2, v, rfl, h3, h2⟩⟩
theorem Mt_one_set (f : UInt8 → Bool) (w : List UInt8) : Mt [some f] w ↔ ∃ c, w = [c] ∧ f c = true := by
  rw [Mt_set]
  constructor
  · rintro ⟨c, u, rfl, hc, h⟩
    rw [Mt_nil] at h; subst h
    exact ⟨c, rfl, hc⟩
  · rintro ⟨c, rfl, hc⟩; exact ⟨c, [], rfl, hc, .nil⟩
theorem Mt_one_star (w : List UInt8) : Mt [none] w := by
  have := Mt_star_of (l := []) w .nil
  rwa [List.append_nil] at this
theorem Mt_snoc_set (l : List Elc) (f : UInt8 → Bool) (w : List UInt8) (c : UInt8) : Mt (l ++ [some f]) (w ++ [c]) ↔ f c = true ∧ Mt l w := by
  rw [Mt_append]
  constructor
  · rintro ⟨u, v, e, h1, h2⟩
    obtain ⟨d, rfl, hd⟩ := (Mt_one_set f v).1 h2
    obtain ⟨rfl, rfl⟩ : w = u ∧ c = d := by
      have := List.append_inj' e rfl
      exact ⟨this.1, by simpa using this.2⟩
    exact ⟨hd, h1⟩
  · rintro ⟨h1, h2⟩
    exact ⟨w, [c], rfl, h2, (Mt_one_set f _).2 ⟨c, rfl, h1⟩⟩
theorem Mt_snoc_set_nil (l : List Elc) (f : UInt8 → Bool) : ¬ Mt (l ++ [some f]) [] := by
  rw [Mt_append]
  rintro ⟨u, v, e, h1, h2⟩
  obtain ⟨d, rfl, _⟩ := (Mt_one_set f v).1 h2
  simp at e
theorem Mt_snoc_star (l : List Elc) (w : List UInt8) (c : UInt8) : Mt (l ++ [none]) (w ++ [c]) ↔ Mt (l ++ [none]) w ∨ Mt l (w ++ [c]) := by
  rw [Mt_append, Mt_append]
  constructor
  · rintro ⟨u, v, e, h1, _⟩
    rcases List.eq_nil_or_concat v with rfl | ⟨v', d, rfl⟩
    · rw [List.append_nil] at e
      subst e
      exact .inr h1
    · rw [List.concat_eq_append, ← List.append_assoc] at e
      have := List.append_inj' e rfl
      exact .inl ⟨u, v', this.1, h1, Mt_one_star _⟩
  · rintro (⟨u, v, rfl, h1, _⟩ | h)
    · exact ⟨u, v ++ [c], by rw [List.append_assoc], h1, Mt_one_star _⟩
    · exact ⟨w ++ [c], [], by rw [List.append_nil], h, Mt_one_star _⟩
theorem Mt_snoc_star_nil (l : List Elc) : Mt (l ++ [none]) [] ↔ Mt l [] := by
  rw [Mt_append]
  constructor
  · rintro ⟨u, v, e, h1, _⟩
    have : u = [] := by
      have := congrArg List.length e
      rw [List.length_append, List.length_nil] at this
      exact List.length_eq_zero_iff.1 (by omega)
    rwa [this] at h1
  · intro h; exact ⟨[], [], rfl, h, Mt_one_star _⟩
def anyA (l : List Elc) (i : Nat) : Prop := l[i]? = some none
def setA (l : List Elc) (i : Nat) (c : UInt8) : Prop := ∃ f, l[i]? = some (some f) ∧ f c = true
def clsP (l : List Elc) (i j : Nat) : Prop := i ≤ j ∧ j ≤ l.length ∧ ∀ k, i ≤ k → k < j → anyA l k
def stP (l : List Elc) (w : List UInt8) (j : Nat) : Prop := j ≤ l.length ∧ ((anyA l j ∧ Mt (l.take (j + 1)) w) ∨ (¬ anyA l j ∧ Mt (l.take j) w))
def nxtP (l : List Elc) (p : Nat → Prop) (c : UInt8) (j : Nat) : Prop := ∃ i, i < l.length ∧ p i ∧ ((anyA l i ∧ clsP l i j) ∨ (setA l i c ∧ clsP l (i + 1) j))
theorem take_suc (l : List Elc) (j : Nat) (x : Elc) (h : l[j]? = some x) : l.take (j + 1) = l.take j ++ [x] := by
  rw [List.take_add_one, h]; rfl
theorem any_lt {l : List Elc} {j : Nat} (h : anyA l j) : j < l.length := (List.getElem?_eq_some_iff.1 h).1
theorem clsP_self (l : List Elc) {j : Nat} (h : j ≤ l.length) : clsP l j j := ⟨Nat.le_refl _, h, fun k h1 h2 => absurd h1 (by omega)⟩
theorem clsP_succ (l : List Elc) (i j : Nat) : clsP l i (j + 1) ↔ (i = j + 1 ∧ j + 1 ≤ l.length) ∨ (clsP l i j ∧ anyA l j) := by
  constructor
  · rintro ⟨h1, h2, h3⟩
    by_cases h : i = j + 1
    · exact .inl ⟨h, h2⟩
    · exact .inr ⟨⟨by omega, by omega, fun k a b => h3 k a (by omega)⟩, h3 j (by omega) (by omega)⟩
  · rintro (⟨rfl, h⟩ | ⟨⟨h1, h2, h3⟩, h4⟩)
    · exact clsP_self l h
    · refine ⟨by omega, any_lt h4, fun k a b => ?_⟩
      by_cases hk : k = j
      · rw [hk]; exact h4
      · exact h3 k a (by omega)
theorem stP_any {l : List Elc} {w : List UInt8} {j : Nat} (h : anyA l j) : stP l w j ↔ Mt (l.take (j + 1)) w :=
  ⟨fun ⟨_, h2⟩ => h2.elim (fun a => a.2) (fun a => absurd h a.1), fun h2 => ⟨Nat.le_of_lt (any_lt h), .inl ⟨h, h2⟩⟩⟩
theorem stP_not {l : List Elc} {w : List UInt8} {j : Nat} (h : ¬ anyA l j) (hj : j ≤ l.length) : stP l w j ↔ Mt (l.take j) w :=
  ⟨fun ⟨_, h2⟩ => h2.elim (fun a => absurd a.1 h) (fun a => a.2), fun h2 => ⟨hj, .inr ⟨h, h2⟩⟩⟩
theorem step_at (l : List Elc) (w : List UInt8) (c : UInt8) : ∀ j, j ≤ l.length → (Mt (l.take j) (w ++ [c]) ↔ ∃ i, i < l.length ∧ stP l w i ∧ ((anyA l i ∧ clsP l i j ∧ i < j) ∨ (setA l i c ∧ clsP l (i + 1) j)))
  | 0, _ => by
    rw [List.take_zero, Mt_nil]
    constructor
    · intro h; simp at h
    · rintro ⟨i, _, _, ⟨_, _, h⟩ | ⟨_, h⟩⟩
      · omega
      · have := h.1;omega
  | j + 1, hj => by
    have ih := step_at l w c j (by omega)
    have hx : l[j]? = some l[j] := List.getElem?_eq_getElem (by omega)
    rw [take_suc l j _ hx]
    cases hxx : l[j] with
    | none =>
      rw [hxx] at hx
      have ha : anyA l j := hx
      rw [Mt_snoc_star, ← take_suc l j none hx, ← stP_any ha, ih]
      constructor
      · rintro (h | ⟨i, h1, h2, ⟨h3, h4, h5⟩ | ⟨h3, h4⟩⟩)
        · exact ⟨j, by omega, h, .inl ⟨ha, (clsP_succ l j j).2 (.inr ⟨clsP_self l (by omega), ha⟩), by omega⟩⟩
        · exact ⟨i, h1, h2, .inl ⟨h3, (clsP_succ l i j).2 (.inr ⟨h4, ha⟩), by omega⟩⟩
        · exact ⟨i, h1, h2, .inr ⟨h3, (clsP_succ l _ j).2 (.inr ⟨h4, ha⟩)⟩⟩
      · rintro ⟨i, h1, h2, ⟨h3, h4, h5⟩ | ⟨h3, h4⟩⟩
        · rcases (clsP_succ l i j).1 h4 with ⟨h6, _⟩ | ⟨h6, _⟩
          · omega
          · by_cases hij : i = j
            · rw [hij] at h2; exact .inl h2
            · exact .inr ⟨i, h1, h2, .inl ⟨h3, h6, by have := h6.1;omega⟩⟩
        · rcases (clsP_succ l _ j).1 h4 with ⟨h6, _⟩ | ⟨h6, _⟩
          · obtain rfl : i = j := by omega
            obtain ⟨f, hf, _⟩ := h3
            rw [hx] at hf; cases hf
          · exact .inr ⟨i, h1, h2, .inr ⟨h3, h6⟩⟩
    | some f =>
      rw [hxx] at hx
      have ha : ¬ anyA l j := fun h => by unfold anyA at h; rw [hx] at h; cases h
      rw [Mt_snoc_set, ← stP_not ha (by omega)]
      constructor
      · rintro ⟨h1, h2⟩
        exact ⟨j, by omega, h2, .inr ⟨⟨f, hx, h1⟩, clsP_self l (by omega)⟩⟩
      · rintro ⟨i, h1, h2, ⟨h3, h4, h5⟩ | ⟨h3, h4⟩⟩
        · rcases (clsP_succ l i j).1 h4 with ⟨h6, _⟩ | ⟨_, h6⟩
          · omega
          · exact absurd h6 ha
        · rcases (clsP_succ l _ j).1 h4 with ⟨h6, _⟩ | ⟨_, h6⟩
          · obtain rfl : i = j := by omega
            obtain ⟨g, hg, hc⟩ := h3
            rw [hx] at hg; cases hg
            exact ⟨hc, h2⟩
          · exact absurd h6 ha
theorem stP_next (l : List Elc) (w : List UInt8) (c : UInt8) (j : Nat) : stP l (w ++ [c]) j ↔ nxtP l (stP l w) c j := by
  unfold nxtP
  by_cases hj : j ≤ l.length
  rotate_left
  · constructor
    · intro h; exact absurd h.1 hj
    · rintro ⟨i, _, _, ⟨_, h⟩ | ⟨_, h⟩⟩ <;> exact absurd h.2.1 hj
  by_cases ha : anyA l j
  · have hl := any_lt ha
    rw [stP_any ha, step_at l w c (j + 1) (by omega)]
    constructor
    · rintro ⟨i, h1, h2, ⟨h3, h4, h5⟩ | ⟨h3, h4⟩⟩
      · rcases (clsP_succ l i j).1 h4 with ⟨h6, _⟩ | ⟨h6, _⟩
        · omega
        · exact ⟨i, h1, h2, .inl ⟨h3, h6⟩⟩
      · rcases (clsP_succ l _ j).1 h4 with ⟨h6, _⟩ | ⟨h6, _⟩
        · obtain rfl : i = j := by omega
          obtain ⟨f, hf, _⟩ := h3
          unfold anyA at ha
          rw [ha] at hf; cases hf
        · exact ⟨i, h1, h2, .inr ⟨h3, h6⟩⟩
    · rintro ⟨i, h1, h2, ⟨h3, h4⟩ | ⟨h3, h4⟩⟩
      · exact ⟨i, h1, h2, .inl ⟨h3, (clsP_succ l i j).2 (.inr ⟨h4, ha⟩), by have := h4.1;omega⟩⟩
      · exact ⟨i, h1, h2, .inr ⟨h3, (clsP_succ l _ j).2 (.inr ⟨h4, ha⟩)⟩⟩
  · rw [stP_not ha hj, step_at l w c j hj]
    constructor
    · rintro ⟨i, h1, h2, ⟨h3, h4, _⟩ | h3⟩
      · exact ⟨i, h1, h2, .inl ⟨h3, h4⟩⟩
      · exact ⟨i, h1, h2, .inr h3⟩
    · rintro ⟨i, h1, h2, ⟨h3, h4⟩ | h3⟩
      · refine ⟨i, h1, h2, .inl ⟨h3, h4, ?_⟩⟩
        by_cases hij : i = j
        · rw [hij] at h3; exact absurd h3 ha
        · have := h4.1;omega
      · exact ⟨i, h1, h2, .inr h3⟩
theorem Mt_take_nil (l : List Elc) : ∀ j, j ≤ l.length → (Mt (l.take j) [] ↔ ∀ k, k < j → anyA l k)
  | 0, _ => ⟨fun _ k h => absurd h (by omega), fun _ => by rw [List.take_zero]; exact .nil⟩
  | j + 1, hj => by
    have ih := Mt_take_nil l j (by omega)
    have hx : l[j]? = some l[j] := List.getElem?_eq_getElem (by omega)
    rw [take_suc l j _ hx]
    cases hxx : l[j] with
    | none =>
      rw [hxx] at hx
      rw [Mt_snoc_star_nil, ih]
      exact ⟨fun h k hk => by by_cases e : k = j; · rw [e]; exact hx
                              · exact h k (by omega), fun h k hk => h k (by omega)⟩
    | some f =>
      rw [hxx] at hx
      constructor
      · intro h; exact absurd h (Mt_snoc_set_nil _ f)
      · intro h
        have := h j (by omega)
        unfold anyA at this
        rw [hx] at this; cases this
theorem stP_start (l : List Elc) (j : Nat) : stP l [] j ↔ clsP l 0 j := by
  by_cases hj : j ≤ l.length
  rotate_left
  · exact ⟨fun h => absurd h.1 hj, fun h => absurd h.2.1 hj⟩
  by_cases ha : anyA l j
  · have hl := any_lt ha
    rw [stP_any ha, Mt_take_nil l (j + 1) (by omega)]
    exact ⟨fun h => ⟨by omega, hj, fun k _ hk => h k (by omega)⟩, fun h k hk => by
      by_cases e : k = j
      · rw [e]; exact ha
      · exact h.2.2 k (by omega) (by omega)⟩
  · rw [stP_not ha hj, Mt_take_nil l j hj]
    exact ⟨fun h => ⟨by omega, hj, fun k _ hk => h k hk⟩, fun h k hk => h.2.2 k (by omega) hk⟩
theorem stP_end (l : List Elc) (w : List UInt8) : stP l w l.length ↔ Mt l w := by
  rw [stP_not (fun h => by have := any_lt h;omega) (Nat.le_refl _), List.take_length]
end Go.Proofs.YthnlnffmmioapaaGreatDoor
namespace Go.Proofs.YthnlnffmmioapaaGreatDoor
open Go.RowKit
theorem kret {a b : Int} (h : a = b) : Ending.returned (.int .i64 a) = .returned (.int .i64 b) := by rw [h]
def kind (n : Int) : Int :=
  if (97 ≤ n ∧ n ≤ 122) ∨ (65 ≤ n ∧ n ≤ 90) then 1
  else if n = 94 ∨ n = 126 ∨ n = 37 then 2
  else if 48 ≤ n ∧ n ≤ 57 then 3
  else if n = 39 then 4
  else if n = 32 then 6
  else if n = 46 ∨ n = 44 ∨ n = 59 ∨ n = 58 ∨ n = 33 ∨ n = 63 ∨ n = 40 ∨ n = 41 ∨ n = 45 then 5
  else 0
theorem punct_at (n : Int) (h0 : 0 ≤ n) (h1 : n ≤ 255) : (0 ≤ Lib.indexByte [46, 44, 59, 58, 33, 63, 40, 41, 45] (UInt8.ofNat n.toNat)) ↔ (n = 46 ∨ n = 44 ∨ n = 59 ∨ n = 58 ∨ n = 33 ∨ n = 63 ∨ n = 40 ∨ n = 41 ∨ n = 45) := by
  obtain ⟨k, rfl⟩ := Int.eq_ofNat_of_zero_le h0
  have hk : k < 256 := by omega
  clear h0 h1
  have : ∀ k : Fin 256, (0 ≤ Lib.indexByte [46, 44, 59, 58, 33, 63, 40, 41, 45] (UInt8.ofNat (k.val : Int).toNat)) ↔ ((k.val : Int) = 46 ∨ (k.val : Int) = 44 ∨ (k.val : Int) = 59 ∨ (k.val : Int) = 58 ∨ (k.val : Int) = 33 ∨ (k.val : Int) = 63 ∨ (k.val : Int) = 40 ∨ (k.val : Int) = 41 ∨ (k.val : Int) = 45) := by decide +kernel
  exact this ⟨k, hk⟩
set_option maxHeartbeats 1000000 in
theorem kind_any (n : Int) (h0 : 0 ≤ n) (h1 : n ≤ 255) (w : World) :
    Calls Tryz.prog 104 #[.int .u8 n] w fun e w' => e = .returned (.int .i64 (kind n)) ∧ w = w' := by
  have HP := Lib.hid (punct_at n h0 h1)
  go_enter Tryz.func104, Tryz.ntmps104
  go_wp2_with (go_at_call 121; refine (Tryz.strings_IndexByte _ _ _).mono ?_; rintro e w' ⟨rfl, rfl⟩)
  all_goals
    go_ret
    refine ⟨kret ?_, rfl⟩
    have hp := HP.out
    try simp only [beq_iff_eq, beq_eq_false_iff_ne, bne_iff_ne, ne_eq, bne_eq_false_iff_eq] at *
    unfold kind
    first | (repeat' split) <;> omega | decide
set_option maxHeartbeats 2000000 in
theorem rkind_any (n : Int) (h0 : 0 ≤ n) (h1 : n ≤ 255) (w : World) :
    Calls Tryz.prog 84 #[.int .u8 n] w fun e w' => e = .returned (.int .i64 (kind n)) ∧ w = w' := by
  go_enter Tryz.func84, Tryz.ntmps84
  go_wp2_with fail
  all_goals
    go_ret
    refine ⟨kret ?_, rfl⟩
    try simp only [beq_iff_eq, beq_eq_false_iff_ne, ne_eq] at *
    unfold kind
    first | (repeat' split) <;> omega | decide
end Go.Proofs.YthnlnffmmioapaaGreatDoor
namespace Go.Proofs.YthnlnffmmioapaaGreatDoor
open Go.RowKit
def plainB (c : UInt8) : Bool := decide (kind (c.toNat : Int) ≠ 0 ∧ kind (c.toNat : Int) ≠ 6)
def chrB (c : UInt8) : Bool := plainB c || decide (c = 42)
def closeI (p : List UInt8) : Nat := (p.takeWhile (fun c => decide (c ≠ 93))).length
def inner (p : List UInt8) : List UInt8 := (p.take (closeI p)).drop 1
def elErr (p : List UInt8) : Int :=
  match p with
  | [] => 0
  | c :: r => if c = 63 ∨ c = 42 then 0 else if c = 91 then (if closeI (c :: r) = (c :: r).length ∨ closeI (c :: r) < 2 then 3 else if (inner (c :: r)).all chrB then 0 else 11) else if c = 93 then 3 else if plainB c then 0 else 11
def elLen (p : List UInt8) : Nat := match p with
  | [] => 0
  | c :: r => if c = 91 then closeI (c :: r) + 1 else 1
def elHas (p : List UInt8) (b : UInt8) : Bool := match p with
  | [] => false
  | c :: r => if c = 63 then true else if c = 42 then false else if c = 91 then (inner (c :: r)).contains b else decide (b = c)
def elAny (p : List UInt8) : Bool := match p with
  | [] => false
  | c :: _ => decide (c = 42)
def elCor (p : List UInt8) : Elc := if elAny p = true then none else some (elHas p)
theorem elLen_pos {p : List UInt8} (h : p ≠ []) : 1 ≤ elLen p := by
  cases p with
  | nil => exact absurd rfl h
  | cons c r => unfold elLen; dsimp only; split <;> omega
def prtsF : Nat → List UInt8 → List (List UInt8)
  | 0, _ => []
  | f + 1, p => if p = [] then [] else p.take (elLen p) :: prtsF f (p.drop (elLen p))
def errF : Nat → List UInt8 → Int
  | 0, _ => 0
  | f + 1, p => if p = [] then 0 else if elErr p ≠ 0 then elErr p else errF f (p.drop (elLen p))
def prts (p : List UInt8) : List (List UInt8) := prtsF p.length p
def errP (p : List UInt8) : Int := errF p.length p
theorem prtsF_more : ∀ (f g : Nat) (p : List UInt8), p.length ≤ f → p.length ≤ g → prtsF f p = prtsF g p
  | 0, 0, _, _, _ => rfl
  | 0, g + 1, p, h, _ => by
    have : p = [] := List.length_eq_zero_iff.1 (by omega)
    subst this; rfl
  | f + 1, 0, p, _, h => by
    have : p = [] := List.length_eq_zero_iff.1 (by omega)
    subst this; rfl
  | f + 1, g + 1, p, h, h' => by
    unfold prtsF
    by_cases hp : p = []
    · rw [if_pos hp, if_pos hp]
    · rw [if_neg hp, if_neg hp]
      have := elLen_pos hp
      have hl : (p.drop (elLen p)).length = p.length - elLen p := List.length_drop
      have h1 : 1 ≤ p.length := List.length_pos_iff.2 hp
      rw [prtsF_more f g (p.drop (elLen p)) (by omega) (by omega)]
theorem errF_more : ∀ (f g : Nat) (p : List UInt8), p.length ≤ f → p.length ≤ g → errF f p = errF g p
  | 0, 0, _, _, _ => rfl
  | 0, g + 1, p, h, _ => by
    have : p = [] := List.length_eq_zero_iff.1 (by omega)
    subst this; rfl
  | f + 1, 0, p, _, h => by
    have : p = [] := List.length_eq_zero_iff.1 (by omega)
    subst this; rfl
  | f + 1, g + 1, p, h, h' => by
    unfold errF
    by_cases hp : p = []
    · rw [if_pos hp, if_pos hp]
    · rw [if_neg hp, if_neg hp]
      have := elLen_pos hp
      have hl : (p.drop (elLen p)).length = p.length - elLen p := List.length_drop
      have h1 : 1 ≤ p.length := List.length_pos_iff.2 hp
      rw [errF_more f g (p.drop (elLen p)) (by omega) (by omega)]
theorem prts_nil : prts [] = [] := rfl
theorem errP_nil : errP [] = 0 := rfl
theorem prts_cons {p : List UInt8} (h : p ≠ []) : prts p = p.take (elLen p) :: prts (p.drop (elLen p)) := by
  have h1 : 1 ≤ p.length := List.length_pos_iff.2 h
  have h2 := elLen_pos h
  have hl : (p.drop (elLen p)).length = p.length - elLen p := List.length_drop
  obtain ⟨n, hn⟩ : ∃ n, p.length = n + 1 := ⟨p.length - 1, by omega⟩
  unfold prts
  rw [hn, prtsF, if_neg h, prtsF_more n (p.drop (elLen p)).length (p.drop (elLen p)) (by omega) (Nat.le_refl _)]
theorem errP_cons {p : List UInt8} (h : p ≠ []) : errP p = if elErr p ≠ 0 then elErr p else errP (p.drop (elLen p)) := by
  have h1 : 1 ≤ p.length := List.length_pos_iff.2 h
  have h2 := elLen_pos h
  have hl : (p.drop (elLen p)).length = p.length - elLen p := List.length_drop
  obtain ⟨n, hn⟩ : ∃ n, p.length = n + 1 := ⟨p.length - 1, by omega⟩
  unfold errP
  rw [hn, errF, if_neg h, errF_more n (p.drop (elLen p)).length (p.drop (elLen p)) (by omega) (Nat.le_refl _)]
def okPart (x : List UInt8) : Prop := x ≠ [] ∧ elErr x = 0 ∧ elLen x = x.length
theorem takeWhile_app {f : UInt8 → Bool} (a b : List UInt8) (h : (a.takeWhile f).length < a.length) : (a ++ b).takeWhile f = a.takeWhile f := by
  induction a with
  | nil => simp at h
  | cons x a ih =>
    rw [List.cons_append, List.takeWhile_cons, List.takeWhile_cons]
    by_cases hx : f x = true
    · rw [if_pos hx, if_pos hx]
      rw [List.takeWhile_cons, if_pos hx] at h
      rw [ih (by simpa using h)]
    · rw [if_neg hx, if_neg hx]
theorem takeWhile_take (f : UInt8 → Bool) (a : List UInt8) : (a.take ((a.takeWhile f).length + 1)).takeWhile f = a.takeWhile f := by
  induction a with
  | nil => rfl
  | cons x a ih =>
    by_cases hx : f x = true
    · rw [List.takeWhile_cons, if_pos hx, List.length_cons, List.take_succ_cons, List.takeWhile_cons, if_pos hx, ih]
    · rw [List.takeWhile_cons, if_neg hx, List.length_nil, List.take_succ_cons, List.takeWhile_cons, if_neg hx]
theorem closeI_le (p : List UInt8) : closeI p ≤ p.length := by
  unfold closeI
  exact (List.takeWhile_sublist _).length_le
theorem el_app {x : List UInt8} (r : List UInt8) (h : okPart x) : elErr (x ++ r) = 0 ∧ elLen (x ++ r) = x.length ∧ elHas (x ++ r) = elHas x ∧ elAny (x ++ r) = elAny x := by
  obtain ⟨h0, h1, h2⟩ := h
  cases x with
  | nil => exact absurd rfl h0
  | cons c t =>
    by_cases hc : c = 91
    · subst hc
      have e91 : ¬ ((91 : UInt8) = 63 ∨ (91 : UInt8) = 42) := by decide
      have e1 : ¬ (91 : UInt8) = 63 := by decide
      have e2 : ¬ (91 : UInt8) = 42 := by decide
      unfold elLen at h2
      dsimp only at h2
      rw [if_pos rfl] at h2
      have hlt : closeI (91 :: t) < (91 :: t).length := by omega
      have hcl : closeI ((91 :: t) ++ r) = closeI (91 :: t) := by
        unfold closeI at hlt ⊢
        rw [takeWhile_app _ r hlt]
      have hin : inner ((91 :: t) ++ r) = inner (91 :: t) := by
        unfold inner
        rw [hcl, List.take_append_of_le_length (by omega)]
      rw [List.cons_append] at hcl hin ⊢
      unfold elErr elLen elHas elAny at *
      dsimp only at *
      rw [if_neg e91, if_pos rfl] at h1
      rw [if_neg e91, if_pos rfl, hcl, hin]
      refine ⟨?_, ?_, ?_, rfl⟩
      · have hge : ¬ (closeI (91 :: t) = (91 :: t).length ∨ closeI (91 :: t) < 2) := fun hh => by rw [if_pos hh] at h1; cases h1
        rw [if_neg hge] at h1
        rw [if_neg (by intro hh; rcases hh with hh | hh
                       · rw [List.length_cons, List.length_append] at hh; rw [List.length_cons] at hlt;omega
                       · exact hge (.inr hh))]
        exact h1
      · rw [if_pos rfl];omega
      · funext b
        rw [if_neg e1, if_neg e2, if_pos rfl]
    · unfold elLen at h2
      dsimp only at h2
      rw [if_neg hc] at h2
      rw [List.cons_append]
      unfold elErr elLen elHas elAny at *
      dsimp only at *
      rw [if_neg hc] at h1 ⊢
      rw [if_neg hc]
      refine ⟨h1, h2, ?_, rfl⟩
      funext b
      rw [if_neg hc, if_neg hc]
theorem first_ok {p : List UInt8} (hp : p ≠ []) (he : elErr p = 0) : okPart (p.take (elLen p)) ∧ elLen p ≤ p.length ∧ (p.take (elLen p)).length = elLen p := by
  cases p with
  | nil => exact absurd rfl hp
  | cons c t =>
    by_cases hc : c = 91
    · subst hc
      have e91 : ¬ ((91 : UInt8) = 63 ∨ (91 : UInt8) = 42) := by decide
      have hle := closeI_le (91 :: t)
      have hL : elLen (91 :: t) = closeI (91 :: t) + 1 := by unfold elLen; dsimp only; rw [if_pos rfl]
      have he' : (if closeI (91 :: t) = (91 :: t).length ∨ closeI (91 :: t) < 2 then (3 : Int) else if (inner (91 :: t)).all chrB then 0 else 11) = 0 := by
        unfold elErr at he
        dsimp only at he
        rwa [if_neg e91, if_pos rfl] at he
      have hge : ¬ (closeI (91 :: t) = (91 :: t).length ∨ closeI (91 :: t) < 2) := fun hh => by rw [if_pos hh] at he'; cases he'
      rw [if_neg hge] at he'
      have hlt : closeI (91 :: t) < (91 :: t).length := by omega
      have htl : ((91 :: t).take (closeI (91 :: t) + 1)).length = closeI (91 :: t) + 1 := by rw [List.length_take];omega
      have hcl : closeI ((91 :: t).take (closeI (91 :: t) + 1)) = closeI (91 :: t) := by
        have := takeWhile_take (fun c => decide (c ≠ 93)) (91 :: t)
        unfold closeI at *
        rw [this]
      have hin : inner ((91 :: t).take (closeI (91 :: t) + 1)) = inner (91 :: t) := by
        unfold inner
        rw [hcl, List.take_take, Nat.min_eq_left (by omega)]
      have hcons : (91 :: t).take (closeI (91 :: t) + 1) = 91 :: t.take (closeI (91 :: t)) := List.take_succ_cons
      rw [hL, htl]
      rw [hcons] at hcl hin htl ⊢
      refine ⟨⟨by simp, ?_, ?_⟩, by omega, rfl⟩
      · unfold elErr
        dsimp only
        rw [if_neg e91, if_pos rfl, hcl, hin, if_neg (by rw [htl];omega)]
        exact he'
      · unfold elLen
        dsimp only
        rw [if_pos rfl, hcl, htl]
    · have hL : elLen (c :: t) = 1 := by unfold elLen; dsimp only; rw [if_neg hc]
      rw [hL]
      refine ⟨⟨by simp, ?_, ?_⟩, by simp, by simp⟩
      · unfold elErr at he ⊢
        dsimp only [List.take_succ_cons, List.take_zero] at he ⊢
        rw [if_neg hc] at he ⊢
        exact he
      · show elLen [c] = 1
        unfold elLen; dsimp only; rw [if_neg hc]
theorem prts_ok : ∀ (n : Nat) (p : List UInt8), p.length ≤ n → errP p = 0 → (∀ x ∈ prts p, okPart x) ∧ (prts p).flatten = p
  | 0, p, h, _ => by
    have : p = [] := List.length_eq_zero_iff.1 (by omega)
    subst this
    exact ⟨fun x hx => by simp [prts_nil] at hx, rfl⟩
  | n + 1, p, h, he => by
    by_cases hp : p = []
    · subst hp
      exact ⟨fun x hx => by simp [prts_nil] at hx, rfl⟩
    · rw [errP_cons hp] at he
      have he1 : elErr p = 0 := by
        by_cases h9 : elErr p = 0
        · exact h9
        · rw [if_pos h9] at he; exact he
      rw [if_neg (fun h9 => h9 he1)] at he
      obtain ⟨h1, h2, h3⟩ := first_ok hp he1
      have h4 := elLen_pos hp
      obtain ⟨i1, i2⟩ := prts_ok n (p.drop (elLen p)) (by rw [List.length_drop];omega) he
      rw [prts_cons hp]
      refine ⟨fun x hx => ?_, ?_⟩
      · rcases List.mem_cons.1 hx with rfl | hx
        · exact h1
        · exact i1 x hx
      · rw [List.flatten_cons, i2, List.take_append_drop]
def pat (p : List UInt8) : List Elc := (prts p).map elCor
end Go.Proofs.YthnlnffmmioapaaGreatDoor
