/-
  Part 7 of the proof: Func, Fx, Pm02, Mx. No statement of the seat is proved here.
-/
import Derived.Test.YtkimmlhcaanfjaaDoorMHTx026
import Derived.Sort.OwnSortedInts
namespace Go.Proofs.YtkimmlhcaanfjaaDoor
open Go.RowKit
theorem Pt1.below {w w' : World} {p v : Value} (h : Pt1 w p v) (hb : Below w.heap.size w w') : Pt1 w' p v := by
  obtain ⟨b, o, rfl, hc⟩ := h
  exact ⟨b, o, rfl, (hb.cell (World.block_lt_of_cell? w _ hc)).trans hc⟩
theorem SatL.row {P : Program} {f : FuncId} {args : List Value} {w0 : World} {L : List Res} {R : Value → List Res → Prop} (h : SatL P f args w0 L R) :
    SatL P f args w0 L (fun u L' => R u L' ∧ ∀ e sz v n xs, Res.row e sz v n xs ∈ L' → (∃ a c, v = .slice a n c) ∧ (0 < n → ∃ g c, v = .slice (some ⟨g, 0, none⟩) n c)) :=
  ⟨h.enters, fun w hp => (h.calls w hp).mono fun e w' ⟨v, L', h1, h2, h3⟩ => ⟨v, L', h1, h2, h3, fun e sz v n xs hm => by
    have ho : w'.ownsRow w0.heap.size e sz v n xs := h2.ok _ hm
    rcases ho.2 with ⟨rfl, h0⟩ | ⟨g, cap, cur, rfl, _⟩
    · obtain rfl : n = 0 := by have := ho.1;omega
      exact ⟨⟨_, _, rfl⟩, fun h => absurd h (by omega)⟩
    · exact ⟨⟨_, _, rfl⟩, fun _ => ⟨g, cap, rfl⟩⟩⟩⟩
end Go.Proofs.YtkimmlhcaanfjaaDoor
namespace Go.Proofs.YtkimmlhcaanfjaaDoor
open Go.RowKit
theorem Ent.perm {w0 : World} {L L' : List Res} (p : L.Perm L') : Ent w0 L L' := Ent.mk fun _ h => h.perm p.symm
section
variable {P : Program} {n : Nat} {w0 : World} {F : Fm} {L : List Res}
def resIs (P : Program) (n : Nat) (F : Fm) (L : List Res) : ResultVar → Value → Prop
  | .tmp t, v => rv n F (.tmp t) = v
  | .cell t tt, v => ∃ (g i e : Nat) (cs : List Value), rv n F (.tmp t) = .pointer (some ⟨g, 0, none⟩) ∧ L[i]? = some (.box e g cs) ∧ ∀ w : World, (∀ j, w.cell? ⟨g, j, none⟩ = cs[j]?) → (loadVar tt ⟨g, 0, none⟩).run P w = .ok v w
theorem resIs_tmp {t : Nat} {v : Value} (h : rv n F (.tmp t) = v) : resIs P n F L (.tmp t) v := h
theorem resIs_cellA {t tt sz g : Nat} {zs : List Value} [T : TAgg P tt sz zs] (i : Nat) {e : TypeId} {cs : List Value} (h1 : rv n F (.tmp t) = .pointer (some ⟨g, 0, none⟩)) (h2 : L[i]? = some (.box e g cs)) (h3 : cs.length = sz) : resIs P n F L (.cell t tt) (.agg cs.toArray) := by
  refine ⟨g, i, e, cs, h1, h2, fun w hc => ?_⟩
  subst h3
  have := run_cells (P := P) (a := ⟨g, 0, none⟩) (w := w) cs 0 #[] (fun j hj => by rw [Nat.zero_add, add_at, Nat.zero_add]; exact hc j)
  simp [loadVar, Sem.run_bind, T.agg, T.size, Result.andThen, loadCells, this]
def allRes (P : Program) (n : Nat) (F : Fm) (L : List Res) : List ResultVar → List Value → Prop
  | [], [] => True
  | r :: rs, v :: vs => resIs P n F L r v ∧ allRes P n F L rs vs
  | _, _ => False
def packV : List Value → Value
  | [v] => v
  | vs => .tuple vs.toArray
theorem mapM_run {w : World} {f : ResultVar → Sem Value} (hf : ∀ r v, resIs P n F L r v → (f r).run P w = .ok v w) : ∀ (rs : List ResultVar) (vs : List Value), allRes P n F L rs vs → (rs.mapM f).run P w = .ok vs w
  | [], [], _ => by simp
  | r :: rs, v :: vs, h => by
    have ih := mapM_run hf rs vs h.2
    rw [List.mapM_cons]
    simp only [Sem.run_bind, Sem.run_pure, Result.andThen, hf r v h.1, ih]
  | [], _ :: _, h => h.elim
  | _ :: _, [], h => h.elim
end
section
variable {P : Program} {n : Nat} {w0 : World} {K : Fm → List Res → Prop} {F : Fm} {L : List Res} {Lw : List Res} {ops : Array Oper} {rest : List Oper}
  {d : Option Nat} {ty : TypeId} {pos : String} {aft : Array Edge}
theorem OKx_quoN {m : Md} {t ut : TypeId} {x y : Operand} {a b : Nat} (hx : rv n F x = .int .i64 (a : Int)) (hy : rv n F y = .int .i64 (b : Int)) (hb : 0 < b) (ha : a ≤ 9223372036854775807)
    (k : OKx P n w0 m ops K rest (updo F d (.int .i64 ((a / b : Nat) : Int))) L) : OKx P n w0 m ops K (⟨d, .binOp .quo t x y ut, ty, pos, aft, none⟩ :: rest) F L :=
  OKx_still (fun w _ _ _ _ _ => run_int .quo t x y .i64 a b (by decide) w ut _ _ _ _ _ hx hy (by
    have e : Int.tdiv (a : Int) (b : Int) = ((a / b : Nat) : Int) := (Int.ofNat_tdiv a b).symm
    have hlt : a / b ≤ a := Nat.div_le_self _ _
    generalize a / b = q at *
    have hw : IntKind.i64.wrap (q : Int) = (q : Int) := wrapI _ ⟨by omega, by omega⟩
    have hb0 : ¬ b = 0 := by omega
    simp only [Op.intDiv]
    simp [hb0, e, hw])) k
end
end Go.Proofs.YtkimmlhcaanfjaaDoor
namespace Go.Proofs.YtkimmlhcaanfjaaDoor
open Go.RowKit
def bN (c t : Nat) : Nat := min 10000 (100 * c ^ 3 / t ^ 3)
theorem bN_le (c t : Nat) : bN c t ≤ 10000 := Nat.min_le_left _ _
end Go.Proofs.YtkimmlhcaanfjaaDoor
namespace Go.Proofs.YtkimmlhcaanfjaaDoor
open Go.RowKit
theorem OK.mk' {P : Program} {n : Nat} {w0 : World} {Q : Exit → Fm → List Res → Prop} {F : Fm} {L : List Res} {c : Code} (h : ∀ w a, Fr n a F → Hp w0.heap.size w0 w L → c.wp P (lift n w0 Q) a w) : OK P n w0 Q c F L := by unfold OK; exact h
end Go.Proofs.YtkimmlhcaanfjaaDoor
