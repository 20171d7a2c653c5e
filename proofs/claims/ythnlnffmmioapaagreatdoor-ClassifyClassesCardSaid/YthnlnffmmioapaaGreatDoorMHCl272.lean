/-
  Part 2 of the proof: Fw, Data. No statement of the seat is proved here.
-/
import Derived.Test.YthnlnffmmioapaaGreatDoorMHCl271
namespace Go.Proofs.YthnlnffmmioapaaGreatDoor
open Go.RowKit
abbrev Fm := Option Nat → Value
def upd (F : Fm) (d : Nat) (v : Value) : Fm
  | some i => cond (Nat.beq i d) v (F (some i))
  | none => F none
def updo (F : Fm) : Option Nat → Value → Fm
  | some d, v => upd F d v
  | none, _ => F
def over (W : List Nat) (G F : Fm) : Fm
  | some i => cond (memN i W) (G (some i)) (F (some i))
  | none => F none
def rv (n : Nat) (F : Fm) : Operand → Value
  | .tmp t => cond (Nat.ble (t + 1) n) (F (some t)) undef
  | .const v => v
  | .global g => .pointer (some ⟨g, 0, none⟩)
  | .func f => .func (.func f) #[] #[]
def marksV : Value → List Deferred
  | .tuple vs => vs.toList.map fun
    | .pointer (some a) => { target := .collected a.block, args := #[] }
    | _ => { target := .collected 0, args := #[] }
  | _ => []
structure Fr (n : Nat) (a : Act) (F : Fm) : Prop where
  defers : a.defers = marksV (F none)
  size : a.tmps.size = n
  at' : ∀ t, t < n → a.tmps.getD t undef = F (some t)
theorem upd_same (F : Fm) (d : Nat) (v : Value) : upd F d v (some d) = v := by simp [upd]
theorem upd_ne (F : Fm) {d i : Nat} (v : Value) (h : i ≠ d) : upd F d v (some i) = F (some i) := by
  simp [upd, beq_ne h]
theorem updo_none (F : Fm) (d : Option Nat) (v : Value) : updo F d v none = F none := by cases d <;> rfl
theorem Fr.eval {n : Nat} {a : Act} {F : Fm} (h : Fr n a F) : a.eval = rv n F := by
  funext x
  cases x with
  | tmp t =>
    simp only [Act.eval, rv]
    by_cases ht : t < n
    · have : Nat.ble (t + 1) n = true := by rw [Nat.ble_eq]; exact ht
      rw [this, h.at' t ht]; rfl
    · have : Nat.ble (t + 1) n = false := by
        cases hb : Nat.ble (t + 1) n with
        | false => rfl
        | true => rw [Nat.ble_eq] at hb; exact absurd hb ht
      rw [this]
      have hs := h.size
      rw [cond_false, Array.getD, dif_neg]
      rw [hs]; exact ht
  | const v => rfl
  | global g => rfl
  | func f => rfl
theorem Fr.put {n : Nat} {a : Act} {F : Fm} (h : Fr n a F) (d : Option Nat) (v : Value) : Fr n (a.put d v) (updo F d v) := by
  cases d with
  | none => exact h
  | some d =>
    refine ⟨h.defers.trans (by rw [updo_none]), by simp [Act.put, h.size], fun t ht => ?_⟩
    have hs := h.size
    by_cases e : t = d
    · subst e
      rw [updo, upd_same]
      have ht' : t < a.tmps.size := by rw [hs]; exact ht
      rw [Act.put, Array.getD, dif_pos (by simpa using ht')]
      simp [Array.getInternal]
    · rw [updo, upd_ne F v e, ← h.at' t ht]
      have e' : d ≠ t := fun h => e h.symm
      have ht' : t < a.tmps.size := by rw [hs]; exact ht
      rw [Act.put, Array.getD, Array.getD, dif_pos (by simpa using ht'), dif_pos ht']
      show (a.tmps.setIfInBounds d v)[t]'(by simpa using ht') = a.tmps[t]
      rw [Array.getElem_setIfInBounds (by simpa using ht')]
      simp [e']
def lift (n : Nat) (w0 : World) (Q : Exit → Fm → List Res → Prop) : Exit → Act → World → Prop :=
  fun e a w => ∃ F L, Fr n a F ∧ Hp w0.heap.size w0 w L ∧ Q e F L
def liftN (n : Nat) (w0 : World) (K : Fm → List Res → Prop) : Exit → Act → World → Prop :=
  fun e a w => e = .normal ∧ ∃ F L, Fr n a F ∧ Hp w0.heap.size w0 w L ∧ K F L
section
variable (P : Program) (n : Nat) (w0 : World)
def OK (Q : Exit → Fm → List Res → Prop) (c : Code) (F : Fm) (L : List Res) : Prop :=
  ∀ w a, Fr n a F → Hp w0.heap.size w0 w L → c.wp P (lift n w0 Q) a w
inductive Md where
  | seq (Lw : List Res) | quiet | pure
def OKx (m : Md) (ops : Array Oper) (K : Fm → List Res → Prop) (rest : List Oper) (F : Fm) (L : List Res) : Prop :=
  match m with
  | .seq Lw => ∀ w a, Fr n a F → Hp w0.heap.size w0 w L → wpListC P ops (fun w => Hp w0.heap.size w0 w Lw) (liftN n w0 K) rest a w
  | .quiet => ∀ a, Fr n a F → wpQuiet P ops (fun w => Hp w0.heap.size w0 w L) (fun a' => ∃ F', Fr n a' F' ∧ K F' L) rest a
  | .pure => ∀ a, Fr n a F → wpPure P ops (fun w => Hp w0.heap.size w0 w L) (fun a' => ∃ F', Fr n a' F' ∧ K F' L) rest a
def Ent (w0 : World) (L L' : List Res) : Prop := ∀ w, Hp w0.heap.size w0 w L → Hp w0.heap.size w0 w L'
def Md.keeps (w0 : World) (L : List Res) : Md → Prop
  | .seq Lw => Ent w0 L Lw
  | _ => True
def Still (F : Fm) (L : List Res) (o : Op) (ty : TypeId) (v : Value) : Prop :=
  ∀ w, Hp w0.heap.size w0 w L → ∀ pos aft g d, (execOp (rv n F) ⟨d, o, ty, pos, aft, g⟩).run P w = .ok (.value v) w
end
section
variable {P : Program} {n : Nat} {w0 : World} {Q : Exit → Fm → List Res → Prop} {K : Fm → List Res → Prop} {F : Fm} {L : List Res} {m : Md} {ops : Array Oper} {rest : List Oper}
theorem wantedN {d : Option Nat} {o : Op} {ty : TypeId} {pos : String} {aft : Array Edge} {y : Nat → Option Bool} : Region.wanted (⟨d, o, ty, pos, aft, none⟩ : Oper) y = true := rfl
theorem wpListC.cls {C : World → Prop} {Q : Exit → Act → World → Prop} {l : List Oper} {a : Act} {w : World} (h : wpListC P ops C Q l a w) : C w := by
  cases l with
  | nil => exact h.1
  | cons o l => exact h.1
theorem OKx_nil (hk : m.keeps w0 L) (h : K F L) : OKx P n w0 m ops K [] F L := by
  cases m with
  | seq Lw => exact fun w a hf hp => ⟨hk w hp, rfl, F, L, hf, hp, h⟩
  | quiet => exact fun a hf => wpQuiet_nil ⟨F, hf, h⟩
  | pure => exact fun a hf => ⟨F, hf, h⟩
theorem OKx_still {d : Option Nat} {o : Op} {ty : TypeId} {pos : String} {aft : Array Edge} {v : Value} (hs : Still P n w0 F L o ty v) (h : OKx P n w0 m ops K rest (updo F d v) L) :
    OKx P n w0 m ops K (⟨d, o, ty, pos, aft, none⟩ :: rest) F L := by
  cases m with
  | seq Lw =>
    intro w a hf hp
    have h1 := h w _ (hf.put d v) hp
    refine ⟨h1.cls, ?_⟩
    rw [wantedN, if_pos rfl]
    unfold Oper.wp
    rw [hf.eval, hs w hp, Oper.upon_value]
    exact h1
  | quiet =>
    intro a hf
    unfold wpQuiet
    simp only [Region.wanted, if_true]
    refine ⟨v, fun w hp => ?_, h _ (hf.put d v)⟩
    unfold Oper.quietAt
    rw [hf.eval, hs w hp]
    exact ⟨rfl, rfl⟩
  | pure =>
    intro a hf
    unfold wpPure
    rw [wantedN, if_pos rfl]
    refine ⟨v, fun w hp => ?_, h _ (hf.put d v)⟩
    rw [hf.eval]
    exact hs w hp _ _ _ _
theorem Fr.yield {a : Act} (hf : Fr n a F) {j t : Nat} {b : Bool} (hj : (ops[j]?).bind (·.dst) = some t) (hb : rv n F (.tmp t) = .bool b) : yielded ops a.tmps j = some b := by
  unfold yielded
  rw [hj]
  have he : a.tmps.getD t undef = .bool b := by
    have := congrFun hf.eval (.tmp t)
    simp only [Act.eval] at this
    rw [this, hb]
  simp only [Option.bind_some]
  have ht : t < a.tmps.size := by
    rcases Nat.lt_or_ge t a.tmps.size with h | h
    · exact h
    · rw [Array.getD, dif_neg (by omega)] at he
      cases he
  rw [Array.getElem?_eq_getElem ht]
  rw [Array.getD, dif_pos ht] at he
  show (match some a.tmps[t] with | some (.bool b) => some b | _ => none) = some b
  have he' : a.tmps[t] = .bool b := he
  rw [he']
theorem OKx_guardT {d : Option Nat} {o : Op} {ty : TypeId} {pos : String} {aft : Array Edge} {j t : Nat} {b : Bool} (hj : (ops[j]?).bind (·.dst) = some t) (hb : rv n F (.tmp t) = .bool b)
    (h : OKx P n w0 m ops K (⟨d, o, ty, pos, aft, none⟩ :: rest) F L) : OKx P n w0 m ops K (⟨d, o, ty, pos, aft, some (j, b)⟩ :: rest) F L := by
  have key : ∀ a : Act, Fr n a F → Region.wanted (⟨d, o, ty, pos, aft, some (j, b)⟩ : Oper) (yielded ops a.tmps) = true := by
    intro a hf
    simp [Region.wanted, hf.yield hj hb]
  have key2 : ∀ a : Act, Region.wanted (⟨d, o, ty, pos, aft, none⟩ : Oper) (yielded ops a.tmps) = true := fun a => rfl
  cases m with
  | seq Lw =>
    intro w a hf hp
    have := h w a hf hp
    unfold wpListC at this ⊢
    rw [key a hf, if_pos rfl]
    rw [key2 a, if_pos rfl] at this
    exact this
  | quiet =>
    intro a hf
    have := h a hf
    unfold wpQuiet at this ⊢
    rw [key a hf, if_pos rfl]
    rw [key2 a, if_pos rfl] at this
    exact this
  | pure =>
    intro a hf
    have := h a hf
    unfold wpPure at this ⊢
    rw [key a hf, if_pos rfl]
    rw [key2 a, if_pos rfl] at this
    exact this
theorem OKx_guardF {d : Option Nat} {o : Op} {ty : TypeId} {pos : String} {aft : Array Edge} {j t : Nat} {b : Bool} (hj : (ops[j]?).bind (·.dst) = some t) (hb : rv n F (.tmp t) = .bool !b)
    (h : OKx P n w0 m ops K rest (updo F d undef) L) : OKx P n w0 m ops K (⟨d, o, ty, pos, aft, some (j, b)⟩ :: rest) F L := by
  have key : ∀ a : Act, Fr n a F → Region.wanted (⟨d, o, ty, pos, aft, some (j, b)⟩ : Oper) (yielded ops a.tmps) = false := by
    intro a hf
    simp only [Region.wanted, hf.yield hj hb]
    cases b <;> rfl
  cases m with
  | seq Lw =>
    intro w a hf hp
    have h1 := h w _ (hf.put d undef) hp
    refine ⟨h1.cls, ?_⟩
    rw [key a hf]
    exact h1
  | quiet =>
    intro a hf
    unfold wpQuiet
    rw [key a hf]
    exact h _ (hf.put d undef)
  | pure =>
    intro a hf
    unfold wpPure
    rw [key a hf]
    exact h _ (hf.put d undef)
theorem OKx_actW {d : Option Nat} {o : Op} {ty : TypeId} {pos : String} {aft : Array Edge} {Lw : List Res} (hk : Ent w0 L Lw)
    (h : ∀ w a, Fr n a F → Hp w0.heap.size w0 w L → Oper.wp P ⟨d, o, ty, pos, aft, none⟩ a w (wpListC P ops (fun w => Hp w0.heap.size w0 w Lw) (liftN n w0 K) rest) (liftN n w0 K)) :
    OKx P n w0 (.seq Lw) ops K (⟨d, o, ty, pos, aft, none⟩ :: rest) F L := by
  intro w a hf hp
  refine ⟨hk w hp, ?_⟩
  rw [wantedN, if_pos rfl]
  exact h w a hf hp
theorem OKx_act {d : Option Nat} {o : Op} {ty : TypeId} {pos : String} {aft : Array Edge} {Lw : List Res} (hk : Ent w0 L Lw)
    (h : ∀ w, Hp w0.heap.size w0 w L → ∃ v w' L', (execOp (rv n F) ⟨d, o, ty, pos, aft, none⟩).run P w = .ok (.value v) w' ∧ Hp w0.heap.size w0 w' L' ∧ OKx P n w0 (.seq Lw) ops K rest (updo F d v) L') :
    OKx P n w0 (.seq Lw) ops K (⟨d, o, ty, pos, aft, none⟩ :: rest) F L := by
  refine OKx_actW hk fun w a hf hp => ?_
  obtain ⟨v, w', L', hrun, hp', hk⟩ := h w hp
  unfold Oper.wp
  rw [hf.eval, hrun, Oper.upon_value]
  exact hk w' _ (hf.put d v) hp'
theorem OKx_act0 {d : Option Nat} {o : Op} {ty : TypeId} {pos : String} {aft : Array Edge} {Lw : List Res} (hk : Ent w0 L Lw)
    (h : ∀ w, Hp w0.heap.size w0 w L → ∃ w' L', (execOp (rv n F) ⟨d, o, ty, pos, aft, none⟩).run P w = .ok .skip w' ∧ Hp w0.heap.size w0 w' L' ∧ OKx P n w0 (.seq Lw) ops K rest (updo F d undef) L') :
    OKx P n w0 (.seq Lw) ops K (⟨d, o, ty, pos, aft, none⟩ :: rest) F L := by
  refine OKx_actW hk fun w a hf hp => ?_
  obtain ⟨w', L', hrun, hp', hk⟩ := h w hp
  unfold Oper.wp
  rw [hf.eval, hrun, Oper.upon_skip]
  exact hk w' _ (hf.put d undef) hp'
theorem wp_anyQ {o : Oper} {a : Act} {w : World} {K : Act → World → Prop} {Q Q' : Exit → Act → World → Prop} (hp : ∀ c a w, ¬ Q (.panic c) a w) (ho : ¬ LetsOut Q) (h : o.wp P a w K Q) : o.wp P a w K Q' := by
  unfold Oper.wp at h ⊢
  generalize (execOp a.eval o).run P w = r at *
  cases r with
  | ok nx w' =>
    cases nx with
    | value v => exact h
    | skip => exact h
    | defer d => exact h
    | enter f args =>
      refine Calls.mono h fun e w'' h => ?_
      cases e with
      | returned v => exact h
      | panicked c => exact absurd h (hp _ _ _)
      | outgrown => exact absurd h ho
    | row r args => exact h
    | _ => exact h.elim
  | halt x w' =>
    cases x with
    | panic v => exact absurd h (hp _ _ _)
    | _ => exact h.elim
theorem wp_of_list {o : Oper} {a : Act} {w : World} {K : Act → World → Prop} {Q : Exit → Act → World → Prop} (hg : o.guard = none) (h : wpList P ops (fun e a w => e = .normal ∧ K a w) [o] a w) : o.wp P a w K Q := by
  have hno : ¬ LetsOut (fun (e : Exit) (a : Act) (w : World) => e = .normal ∧ K a w) := by
    rintro ⟨a, w, h, _⟩
    cases h
  unfold wpList at h
  rw [if_pos (by simp [Region.wanted, hg])] at h
  rcases h with h | ⟨_, h⟩
  · exact wp_anyQ (fun c a w h => by cases h.1) hno (Oper.wp_mono (fun a w h => h.2) h)
  · exact absurd h hno
theorem wpList_of_C {C : World → Prop} {Q : Exit → Act → World → Prop} : ∀ (l : List Oper) (a : Act) (w : World), wpListC P ops C Q l a w → wpList P ops Q l a w
  | [], _, _, h => h.2
  | o :: l, a, w, h => by
    obtain ⟨_, h⟩ := h
    unfold wpList
    split
    · rename_i hw
      rw [if_pos hw] at h
      exact .inl (Oper.wp_mono (fun a w h => wpList_of_C l a w h) h)
    · rename_i hw
      rw [if_neg hw] at h
      exact wpList_of_C l _ w h
theorem Ent.refl (w0 : World) (L : List Res) : Ent w0 L L := fun _ h => h
theorem Ent.sub {L' : List Res} (h : L'.Sublist L) : Ent w0 L L' := fun _ hp => hp.sub h
theorem Ent.nil : Ent w0 L [] := fun _ hp => hp.none
def nodupB : List Nat → Bool
  | [] => true
  | i :: is => cond (memN i is) false (nodupB is)
def pickL (L : List Res) (is : List Nat) : List Res := is.filterMap fun i => L[i]?
theorem Hp.apart {B : Nat} {w : World} (h : Hp B w0 w L) {i j : Nat} (hij : i ≠ j) {r s : Res} (hi : L[i]? = some r) (hj : L[j]? = some s) : r.blk = .none ∨ r.blk ≠ s.blk := by
  obtain ⟨hil, hie⟩ := List.getElem?_eq_some_iff.1 hi
  obtain ⟨hjl, hje⟩ := List.getElem?_eq_some_iff.1 hj
  have hp := List.pairwise_iff_getElem.1 h.dj
  rcases Nat.lt_or_ge i j with hlt | hge
  · have := hp i j hil hjl hlt
    rw [hie, hje] at this
    exact this
  · have := hp j i hjl hil (by omega)
    rw [hie, hje] at this
    by_cases hn : r.blk = .none
    · exact .inl hn
    · rcases this with h1 | h1
      · right; rw [h1]; exact hn
      · right; exact fun e => h1 e.symm
theorem Hp.pick {B : Nat} {w : World} (h : Hp B w0 w L) : ∀ is : List Nat, nodupB is = true → Hp B w0 w (pickL L is)
  | [], _ => h.none
  | i :: is, hn => by
    have hm : memN i is = false := by
      cases hb : memN i is with
      | false => rfl
      | true => simp [nodupB, hb] at hn
    have hn' : nodupB is = true := by simpa [nodupB, hm] using hn
    have ih := h.pick is hn'
    unfold pickL
    rw [List.filterMap_cons]
    cases hi : L[i]? with
    | none => exact ih
    | some r =>
      refine ih.cons (h.ok r (List.mem_of_getElem? hi)) fun s hs => ?_
      obtain ⟨j, hj, hjs⟩ := List.mem_filterMap.1 hs
      have hij : i ≠ j := by
        rintro rfl
        have := (memN_iff i is).2 hj
        rw [hm] at this; cases this
      exact h.apart hij hi hjs
theorem Ent.pick (is : List Nat) (hn : nodupB is = true) : Ent w0 L (pickL L is) := fun _ hp => hp.pick is hn
theorem Ent.trans {L1 L2 : List Res} (a : Ent w0 L L1) (b : Ent w0 L1 L2) : Ent w0 L L2 := fun w h => b w (a w h)
theorem Ent.subset {L' : List Res} (h : ∀ w, Hp w0.heap.size w0 w L → Hp w0.heap.size w0 w L') : Ent w0 L L' := h
theorem OKx_ent {L' Lw : List Res} (e : Ent w0 L L') (h : OKx P n w0 (.seq Lw) ops K rest F L') : OKx P n w0 (.seq Lw) ops K rest F L := fun w a hf hp => h w a hf (e w hp)
theorem OK_ent {c : Code} {L' : List Res} (e : Ent w0 L L') (h : OK P n w0 Q c F L') : OK P n w0 Q c F L := fun w a hf hp => h w a hf (e w hp)
class Keeps (w0 : World) (L Lw : List Res) : Prop where
  ent : Ent w0 L Lw
theorem Ent.cons {r : Res} {Lw : List Res} (h : Lw.Sublist L) : Ent w0 (r :: L) Lw := fun _ hp => hp.sub (h.cons r)
instance Keeps.nil : Keeps w0 L [] := ⟨Ent.nil⟩
class Subl (L Lw : List Res) : Prop where
  sub : Lw.Sublist L
instance Subl.nil : Subl L [] := ⟨List.nil_sublist L⟩
instance Subl.keep {r : Res} {Lw : List Res} [h : Subl L Lw] : Subl (r :: L) (r :: Lw) := ⟨h.sub.cons_cons r⟩
instance Subl.skip {r : Res} {Lw : List Res} [h : Subl L Lw] : Subl (r :: L) Lw := ⟨h.sub.cons r⟩
instance Keeps.subl {Lw : List Res} [h : Subl L Lw] : Keeps w0 L Lw := ⟨Ent.sub h.sub⟩
class KeepsM (w0 : World) (L : List Res) (m : Md) : Prop where
  ent : m.keeps w0 L
instance KeepsM.quiet : KeepsM w0 L .quiet := ⟨trivial⟩
instance KeepsM.pure : KeepsM w0 L .pure := ⟨trivial⟩
instance KeepsM.seq {Lw : List Res} [h : Keeps w0 L Lw] : KeepsM w0 L (.seq Lw) := ⟨h.ent⟩
theorem OKx_nilK [hk : KeepsM w0 L m] (h : K F L) : OKx P n w0 m ops K [] F L := OKx_nil hk.ent h
section
variable {d : Option Nat} {ty : TypeId} {pos : String} {aft : Array Edge} {g : Option (Nat × Bool)}
theorem OKx_gc (f : FuncId) {fo : Operand} {args : Array Operand} {tt : Array TypeId} {fs cs : Array Value} (hf : rv n F fo = .func (.func f) fs cs) (h : OKx P n w0 m ops K (⟨d, .call { callee := .value fo, args := args, argTypes := tt }, ty, pos, aft, g⟩ :: rest) F L) : OKx P n w0 m ops K (⟨d, .call { callee := .value fo, args := args, argTypes := tt }, ty, pos, aft, g⟩ :: rest) F L := h
theorem OKx_gb {b : Builtin} {args : Array Operand} {tt : Array TypeId} (h : OKx P n w0 m ops K (⟨d, .call { callee := .builtin b, args := args, argTypes := tt }, ty, pos, aft, g⟩ :: rest) F L) : OKx P n w0 m ops K (⟨d, .call { callee := .builtin b, args := args, argTypes := tt }, ty, pos, aft, g⟩ :: rest) F L := h
theorem OKx_gi {t : TypeId} {x y : Operand} (h : OKx P n w0 m ops K (⟨d, .indexAddr t x y, ty, pos, aft, g⟩ :: rest) F L) : OKx P n w0 m ops K (⟨d, .indexAddr t x y, ty, pos, aft, g⟩ :: rest) F L := h
theorem OKx_gl {t : TypeId} {x : Operand} (h : OKx P n w0 m ops K (⟨d, .load t x, ty, pos, aft, g⟩ :: rest) F L) : OKx P n w0 m ops K (⟨d, .load t x, ty, pos, aft, g⟩ :: rest) F L := h
theorem OKx_gs {t : TypeId} {x y : Operand} (h : OKx P n w0 m ops K (⟨d, .store t x y, ty, pos, aft, g⟩ :: rest) F L) : OKx P n w0 m ops K (⟨d, .store t x y, ty, pos, aft, g⟩ :: rest) F L := h
theorem OKx_gn {o : BinOp} {t ut : TypeId} {x y : Operand} (h : OKx P n w0 m ops K (⟨d, .binOp o t x y ut, ty, pos, aft, g⟩ :: rest) F L) : OKx P n w0 m ops K (⟨d, .binOp o t x y ut, ty, pos, aft, g⟩ :: rest) F L := h
theorem OKx_gt {t : TypeId} {k : Nat} {ps : Array (Nat × Operand)} (h : OKx P n w0 m ops K (⟨d, .buildSlice t k ps, ty, pos, aft, g⟩ :: rest) F L) : OKx P n w0 m ops K (⟨d, .buildSlice t k ps, ty, pos, aft, g⟩ :: rest) F L := h
end
def thenQ (K : Fm → List Res → Prop) (Q : Exit → Fm → List Res → Prop) : Exit → Fm → List Res → Prop
  | .normal, F, L => K F L
  | e, F, L => Q e F L
def blockQ (id : Nat) (Q : Exit → Fm → List Res → Prop) : Exit → Fm → List Res → Prop
  | .exit id', F, L => cond (Nat.beq id' id) (Q .normal F L) (Q (.exit id') F L)
  | e, F, L => Q e F L
theorem OK_mono {c : Code} {Q' : Exit → Fm → List Res → Prop} (h : OK P n w0 Q c F L) (hq : ∀ e F L, Q e F L → Q' e F L) : OK P n w0 Q' c F L :=
  fun w a hf hp => wp_mono (h w a hf hp) fun e a w ⟨F, L, h1, h2, h3⟩ => ⟨F, L, h1, h2, hq _ _ _ h3⟩
theorem OK_seq {a b : Code} (h : OK P n w0 (thenQ (fun F L => OK P n w0 Q b F L) Q) a F L) : OK P n w0 Q (.seq a b) F L := by
  intro w ac hf hp
  refine wp_seq (wp_mono (h w ac hf hp) ?_)
  rintro e a' w' ⟨F', L', h1, h2, h3⟩
  cases e with
  | normal => exact h3 w' a' h1 h2
  | _ => exact ⟨F', L', h1, h2, h3⟩
theorem OK_skip (h : Q .normal F L) : OK P n w0 Q .skip F L := fun _ _ hf hp => wp_skip ⟨F, L, hf, hp, h⟩
theorem OK_exit {id : Nat} (h : Q (.exit id) F L) : OK P n w0 Q (.exit id) F L := fun _ _ hf hp => wp_exit ⟨F, L, hf, hp, h⟩
theorem OK_ret (h : Q .ret F L) : OK P n w0 Q .ret F L := fun _ _ hf hp => wp_ret ⟨F, L, hf, hp, h⟩
theorem OK_condT {c : Operand} {x y : Code} (hc : rv n F c = .bool true) (h : OK P n w0 Q x F L) : OK P n w0 Q (.cond c x y) F L :=
  fun w a hf hp => wp_cond_true (by rw [hf.eval, hc]) (h w a hf hp)
theorem OK_condF {c : Operand} {x y : Code} (hc : rv n F c = .bool false) (h : OK P n w0 Q y F L) : OK P n w0 Q (.cond c x y) F L :=
  fun w a hf hp => wp_cond_false (by rw [hf.eval, hc]) (h w a hf hp)
theorem OK_block {id : Nat} {c : Code} (h : OK P n w0 (blockQ id Q) c F L) : OK P n w0 Q (.block id c) F L := by
  intro w ac hf hp
  refine wp_block (wp_mono (h w ac hf hp) ?_)
  rintro e a' w' ⟨F', L', h1, h2, h3⟩
  cases e with
  | exit id' =>
    simp only [blockQ] at h3
    simp only [Exit.inBlock]
    by_cases he : id' = id
    · subst he
      rw [if_pos rfl]
      simp only [Nat.beq_refl, cond_true] at h3
      exact ⟨F', L', h1, h2, h3⟩
    · rw [if_neg he]
      have : Nat.beq id' id = false := beq_ne he
      rw [this] at h3
      exact ⟨F', L', h1, h2, h3⟩
  | _ => exact ⟨F', L', h1, h2, h3⟩
theorem OK_region {id : Nat} {l : List Oper} (h : OKx P n w0 (.seq []) l.toArray (Q .normal) l F L) : OK P n w0 Q (.region id l.toArray false) F L := by
  intro w a hf hp
  refine wp_mono (wp_region_lit (wpList_of_C l a w (h w a hf hp))) ?_
  rintro e a' w' ⟨rfl, F', L', h1, h2, h3⟩
  exact ⟨F', L', h1, h2, h3⟩
theorem OK_quiet {id : Nat} {l : List Oper} (hm : P.follows .mixedOrders = true) (hB : Region.lexB .any l.toArray = true) (h : OKx P n w0 .quiet l.toArray (Q .normal) l F L) : OK P n w0 Q (.region id l.toArray true) F L := by
  intro w a hf hp
  refine wp_region_quiet (C := fun w => Hp w0.heap.size w0 w L) hm hB hp.drew ?_
  have h1 := h a hf
  have mono : ∀ (l' : List Oper) (a : Act), wpQuiet P l.toArray (fun w => Hp w0.heap.size w0 w L) (fun a' => ∃ F', Fr n a' F' ∧ Q .normal F' L) l' a →
      wpQuiet P l.toArray (fun w => Hp w0.heap.size w0 w L) (fun a' => ∀ w', Hp w0.heap.size w0 w' L → lift n w0 Q .normal a' w') l' a := by
    intro l'
    induction l' with
    | nil => rintro a ⟨F', h1, h2⟩ w' hw'; exact ⟨F', L, h1, hw', h2⟩
    | cons o l' ih =>
      intro a h
      unfold wpQuiet at h ⊢
      split
      · rename_i hw
        rw [if_pos hw] at h
        exact Oper.quiet_mono (fun a h => ih a h) h
      · rename_i hw
        rw [if_neg hw] at h
        exact ih _ h
  exact mono l a h1
def nthO : List Oper → Nat → List Oper
  | [], _ => []
  | o :: _, 0 => [o]
  | _ :: l, k + 1 => nthO l k
def pickO (l : List Oper) : List Nat → List Oper
  | [] => []
  | i :: is => nthO l i ++ pickO l is
theorem nthO_at : ∀ (l : List Oper) (i : Nat) (h : i < l.length), nthO l i = [l[i]]
  | o :: l, 0, h => rfl
  | o :: l, k + 1, h => nthO_at l k (by simpa using h)
theorem pickO_at (l : List Oper) : ∀ is : List Nat, (is.all fun i => Nat.ble (i + 1) l.length) = true → is.map (fun t => l.toArray[t]?) = (pickO l is).map some
  | [], _ => rfl
  | i :: is, h => by
    simp only [List.all_cons, Bool.and_eq_true, Nat.ble_eq] at h
    simp only [List.map_cons, pickO, nthO_at l i h.1, List.cons_append, List.nil_append, pickO_at l is h.2]
    simp [show i < l.length from h.1]
theorem OK_rid (id : Nat) {a : Array Oper} {b : Bool} (h : OK P n w0 Q (.region id a b) F L) : OK P n w0 Q (.region id a b) F L := h
theorem OK_mix (A B A' T : List Nat) (Lw : List Res) {id : Nat} {l la lb la' lt : List Oper} (hm : P.follows .mixedOrders = true) (hB : mixB l.toArray A B A' T = true) (hI : ((A ++ (B ++ (A' ++ T))).all fun i => Nat.ble (i + 1) l.length) = true) (e : Ent w0 L Lw) (hA : pickO l A = la) (hB' : pickO l B = lb) (hA' : pickO l A' = la') (hT : pickO l T = lt)
    (h : OKx P n w0 .pure l.toArray (fun F1 _ => OKx P n w0 .pure l.toArray (fun F2 _ => OKx P n w0 .pure l.toArray (fun F3 _ => OKx P n w0 (.seq Lw) l.toArray (Q .normal) lt F3 L) la' F2 Lw) lb F1 L) la F Lw) : OK P n w0 Q (.region id l.toArray true) F L := by
  subst hA hB' hA' hT
  intro w a hf hp
  simp only [List.all_append, Bool.and_eq_true] at hI
  have key := wp_region_mix (id := id) (P := P) (ops := l.toArray) (a := a) (w := w) (Q := liftN n w0 (Q .normal)) (C := fun w => Hp w0.heap.size w0 w L) (Cw := fun w => Hp w0.heap.size w0 w Lw) A B A' T _ _ _ _ hm hB (pickO_at l A hI.1) (pickO_at l B hI.2.1) (pickO_at l A' hI.2.2.1) (pickO_at l T hI.2.2.2)
    (fun c a w h => by cases h.1) hp.drew (e _ hp.drew) ?_
  · refine wp_mono key ?_
    rintro e a' w' ⟨rfl, F', L', h1, h2, h3⟩
    exact ⟨F', L', h1, h2, h3⟩
  · have mono : ∀ {C : World → Prop} {Q1 Q2 : Act → Prop} (hq : ∀ a, Q1 a → Q2 a) (l' : List Oper) (a : Act), wpPure P l.toArray C Q1 l' a → wpPure P l.toArray C Q2 l' a := by
      intro C Q1 Q2 hq l'
      induction l' with
      | nil => intro a h; exact hq _ h
      | cons o l' ih =>
        intro a h
        unfold wpPure at h ⊢
        split
        · rename_i hw
          rw [if_pos hw] at h
          obtain ⟨v, h1, h2⟩ := h
          exact ⟨v, h1, ih _ h2⟩
        · rename_i hw
          rw [if_neg hw] at h
          exact ih _ h
    refine mono ?_ _ a (h a hf)
    rintro a1 ⟨F1, hf1, h⟩
    refine mono ?_ _ a1 (h a1 hf1)
    rintro a2 ⟨F2, hf2, h⟩
    refine mono ?_ _ a2 (h a2 hf2)
    rintro a3 ⟨F3, hf3, h⟩
    exact h _ a3 hf3 hp.drew
theorem thenQ_n (h : K F L) : thenQ K Q .normal F L := h
theorem thenQ_e {i : Nat} (h : Q (.exit i) F L) : thenQ K Q (.exit i) F L := h
theorem thenQ_r (h : Q .ret F L) : thenQ K Q .ret F L := h
theorem blockQ_n {id : Nat} (h : Q .normal F L) : blockQ id Q .normal F L := h
theorem blockQ_r {id : Nat} (h : Q .ret F L) : blockQ id Q .ret F L := h
theorem blockQ_s {id : Nat} (h : Q .normal F L) : blockQ id Q (.exit id) F L := by simpa [blockQ] using h
theorem OK_loop {body : Code} (I : Nat → Fm → List Res → Prop) (m0 : Nat) (h0 : I m0 F L)
    (hr : ∀ m F' L', I m F' L' → OK P n w0 (thenQ (fun F'' L'' => ∃ m', m' < m ∧ I m' F'' L'') Q) body F' L') : OK P n w0 Q (.loop body) F L := by
  have key : ∀ m F' L' w a, I m F' L' → Fr n a F' → Hp w0.heap.size w0 w L' → ∀ (b : Frame) (k : List Item) (cs : List Frame),
      ∃ e a' w', lift n w0 Q e a' w' ∧ Arrives P (lone (b.at a (.code body :: .inLoop body :: k)) cs w) b k cs e a' w' := by
    intro m
    induction m using Nat.strongRecOn with
    | _ m ih =>
      intro F' L' w a hI hf hp b k cs
      obtain ⟨e, a₁, w₁, ⟨F₁, L₁, hf1, hp1, hq⟩, harr⟩ := hr m F' L' hI w a hf hp b (.inLoop body :: k) cs
      cases e with
      | normal =>
        obtain ⟨m', hlt, hI'⟩ := hq
        obtain ⟨e₂, a₂, w₂, hq₂, harr₂⟩ := ih m' hlt F₁ L₁ w₁ a₁ hI' hf1 hp1 b k cs
        exact ⟨e₂, a₂, w₂, hq₂, .of_steps (Steps.trans harr (.one step_inLoop)) harr₂⟩
      | exit id => exact ⟨_, a₁, w₁, ⟨F₁, L₁, hf1, hp1, hq⟩, .pass (x := .inLoop body) rfl (fun _ _ => .inl (by simp)) harr⟩
      | goto l => exact ⟨_, a₁, w₁, ⟨F₁, L₁, hf1, hp1, hq⟩, .pass (x := .inLoop body) rfl (fun _ _ => .inl (by simp)) harr⟩
      | ret => exact ⟨_, a₁, w₁, ⟨F₁, L₁, hf1, hp1, hq⟩, .pass (x := .inLoop body) rfl (fun _ _ => .inl (by simp)) harr⟩
      | panic ch => exact ⟨_, a₁, w₁, ⟨F₁, L₁, hf1, hp1, hq⟩, .pass (x := .inLoop body) rfl (fun _ _ => .inl (by simp)) harr⟩
      | outgrown => exact ⟨_, a₁, w₁, ⟨F₁, L₁, hf1, hp1, hq⟩, .pass (x := .inLoop body) rfl (fun _ _ => .inl (by simp)) harr⟩
  intro w a hf hp b k cs
  obtain ⟨e, a', w', hq, harr⟩ := key m0 F L w a h0 hf hp b k cs
  exact ⟨e, a', w', hq, .of_steps (.one step_loop) harr⟩
def agree (W : List Nat) (F' F : Fm) : Prop := F' none = F none ∧ ∀ i, memN i W = false → F' (some i) = F (some i)
theorem agree_refl (W : List Nat) (F : Fm) : agree W F F := ⟨rfl, fun _ _ => rfl⟩
theorem agree_upd {W : List Nat} {F' F : Fm} {d : Nat} {v : Value} (h : memN d W = true) (ha : agree W F' F) : agree W (upd F' d v) F := by
  refine ⟨ha.1, fun i hi => ?_⟩
  have : i ≠ d := by rintro rfl; rw [h] at hi; cases hi
  rw [upd_ne _ _ this]
  exact ha.2 i hi
theorem agree_over {W : List Nat} {G F : Fm} : agree W (over W G F) F := by
  refine ⟨rfl, fun i hi => ?_⟩
  simp [over, hi]
theorem agree_over2 {W W' : List Nat} {G F' F : Fm} (h : (W'.all fun i => memN i W) = true) (ha : agree W F' F) : agree W (over W' G F') F := by
  refine ⟨ha.1, fun i hi => ?_⟩
  have : memN i W' = false := by
    cases hm : memN i W' with
    | false => rfl
    | true =>
      have := List.all_eq_true.1 h i ((memN_iff i W').1 hm)
      rw [this] at hi; cases hi
  simp only [over, this, cond_false]
  exact ha.2 i hi
theorem over_upd {W : List Nat} {F' F : Fm} (ha : agree W F' F) : F' = over W F' F := by
  funext i
  cases i with
  | none => exact ha.1
  | some i =>
    simp only [over]
    cases h : memN i W with
    | true => rfl
    | false => exact ha.2 i h
theorem upd_self (F : Fm) (d : Nat) : upd F d (F (some d)) = F := by
  funext i
  cases i with
  | none => rfl
  | some i =>
    by_cases h : i = d
    · subst h; rw [upd_same]
    · rw [upd_ne _ _ h]
theorem OK_loop1 (s1 : Nat) (W : List Nat) {body : Code} (R : Nat → Value → List Res → Prop) (m0 : Nat) (L1 : List Res) (e : Ent w0 L L1) (h0 : R m0 (F (some s1)) L1)
    (hr : ∀ m v1 L' G, R m v1 L' → OK P n w0 (thenQ (fun F'' L'' => agree W F'' F ∧ ∃ m' L1, m' < m ∧ Ent w0 L'' L1 ∧ R m' (F'' (some s1)) L1) Q) body (upd (over W G F) s1 v1) L') : OK P n w0 Q (.loop body) F L := by
  refine OK_loop (fun m F' L' => agree W F' F ∧ ∃ L1, Ent w0 L' L1 ∧ R m (F' (some s1)) L1) m0 ⟨agree_refl _ _, L1, e, h0⟩ ?_
  rintro m F' L' ⟨ha, L1, e, hR⟩
  have hk := hr m (F' (some s1)) L1 F' hR
  rw [← over_upd ha, upd_self] at hk
  exact OK_mono (OK_ent e hk) fun ex F'' L'' h => by
    cases ex with
    | normal => obtain ⟨h1, m', L2, h2, h3, h4⟩ := h; exact ⟨m', h2, h1, L2, h3, h4⟩
    | _ => exact h
theorem OK_loop2 (s1 s2 : Nat) (W : List Nat) {body : Code} (R : Nat → Value → Value → List Res → Prop) (m0 : Nat) (L1 : List Res) (e : Ent w0 L L1) (h0 : R m0 (F (some s1)) (F (some s2)) L1)
    (hr : ∀ m v1 v2 L' G, R m v1 v2 L' → OK P n w0 (thenQ (fun F'' L'' => agree W F'' F ∧ ∃ m' L1, m' < m ∧ Ent w0 L'' L1 ∧ R m' (F'' (some s1)) (F'' (some s2)) L1) Q) body (upd (upd (over W G F) s1 v1) s2 v2) L') : OK P n w0 Q (.loop body) F L := by
  refine OK_loop (fun m F' L' => agree W F' F ∧ ∃ L1, Ent w0 L' L1 ∧ R m (F' (some s1)) (F' (some s2)) L1) m0 ⟨agree_refl _ _, L1, e, h0⟩ ?_
  rintro m F' L' ⟨ha, L1, e, hR⟩
  have hk := hr m (F' (some s1)) (F' (some s2)) L1 F' hR
  rw [← over_upd ha, upd_self, upd_self] at hk
  exact OK_mono (OK_ent e hk) fun ex F'' L'' h => by
    cases ex with
    | normal => obtain ⟨h1, m', L2, h2, h3, h4⟩ := h; exact ⟨m', h2, h1, L2, h3, h4⟩
    | _ => exact h
theorem OK_loop3 (s1 s2 s3 : Nat) (W : List Nat) {body : Code} (R : Nat → Value → Value → Value → List Res → Prop) (m0 : Nat) (L1 : List Res) (e : Ent w0 L L1) (h0 : R m0 (F (some s1)) (F (some s2)) (F (some s3)) L1)
    (hr : ∀ m v1 v2 v3 L' G, R m v1 v2 v3 L' → OK P n w0 (thenQ (fun F'' L'' => agree W F'' F ∧ ∃ m' L1, m' < m ∧ Ent w0 L'' L1 ∧ R m' (F'' (some s1)) (F'' (some s2)) (F'' (some s3)) L1) Q) body (upd (upd (upd (over W G F) s1 v1) s2 v2) s3 v3) L') : OK P n w0 Q (.loop body) F L := by
  refine OK_loop (fun m F' L' => agree W F' F ∧ ∃ L1, Ent w0 L' L1 ∧ R m (F' (some s1)) (F' (some s2)) (F' (some s3)) L1) m0 ⟨agree_refl _ _, L1, e, h0⟩ ?_
  rintro m F' L' ⟨ha, L1, e, hR⟩
  have hk := hr m (F' (some s1)) (F' (some s2)) (F' (some s3)) L1 F' hR
  rw [← over_upd ha, upd_self, upd_self, upd_self] at hk
  exact OK_mono (OK_ent e hk) fun ex F'' L'' h => by
    cases ex with
    | normal => obtain ⟨h1, m', L2, h2, h3, h4⟩ := h; exact ⟨m', h2, h1, L2, h3, h4⟩
    | _ => exact h
def Ret (w : World) (R : Value → List Res → Prop) (e : Ending) (w' : World) : Prop := ∃ v L', e = .returned v ∧ Hp w.heap.size w w' L' ∧ R v L'
def Enters' (P : Program) (f : FuncId) : Prop := ∃ fn c, P.funcs[f]? = some fn ∧ (fn.name == "runtime.NumGoroutine") = false ∧ fn.body = some c
theorem Enters'.run {f : FuncId} (h : Enters' P f) (args : Array Value) (w : World) : (callFunc f args).run P w = .ok (.enter f args) w := by
  obtain ⟨fn, c, hf, hn, hb⟩ := h
  have hn' : ¬ fn.name = "runtime.NumGoroutine" := by simpa using hn
  simp [callFunc, hf, hn', hb, Sem.run_bind, program, Sem.run, Result.andThen]
structure SatL (P : Program) (f : FuncId) (args : List Value) (w0 : World) (L : List Res) (R : Value → List Res → Prop) : Prop where
  enters : Enters' P f
  calls : ∀ w, Hp w0.heap.size w0 w L → Calls P f args.toArray w fun e w' => ∃ v L', e = .returned v ∧ Hp w0.heap.size w0 w' L' ∧ R v L'
abbrev Sat (P : Program) (f : FuncId) (args : List Value) (w : World) (R : Value → List Res → Prop) : Prop := SatL P f args w [] R
theorem SatL.mono {f : FuncId} {args : List Value} {R R' : Value → List Res → Prop} (h : SatL P f args w0 L R) (hr : ∀ v L, R v L → R' v L) : SatL P f args w0 L R' :=
  ⟨h.enters, fun w hp => (h.calls w hp).mono fun e w' ⟨v, L', h1, h2, h3⟩ => ⟨v, L', h1, h2, hr _ _ h3⟩⟩
theorem SatL.pre {f : FuncId} {args : List Value} {R : Value → List Res → Prop} {L' : List Res} (e : Ent w0 L L') (h : SatL P f args w0 L' R) : SatL P f args w0 L R :=
  ⟨h.enters, fun w hp => h.calls w (e w hp)⟩
theorem Sat.lib {f : FuncId} {args : List Value} {w : World} {R : Value → List Res → Prop} (he : Enters' P f) (h : ∀ w1, Below w.heap.size w w1 → Calls P f args.toArray w1 (Ret w1 R)) : Sat P f args w R :=
  ⟨he, fun w1 hp => (h w1 hp.below).mono fun e w' ⟨v, L', h1, h2, h3⟩ => ⟨v, L', h1, by have := hp.call h2; rwa [List.append_nil] at this, h3⟩⟩
theorem Sat.at {f : FuncId} {args : List Value} {w : World} {R : Value → List Res → Prop} (h : Sat P f args w R) : Calls P f args.toArray w (Ret w R) := h.calls w (Hp.refl w)
def argF (args : List Value) : Fm
  | some i => args.getD i undef
  | none => undef
def resV (n : Nat) (F : Fm) : List Nat → Value
  | [t] => rv n F (.tmp t)
  | ts => .tuple (ts.map fun t => rv n F (.tmp t)).toArray
def bodyQ (n : Nat) (w0 : World) (ts : List Nat) (R : Value → List Res → Prop) : Exit → Fm → List Res → Prop
  | .normal, F, L => marksV (F none) = [] ∧ ∃ L', Ent w0 L L' ∧ R (resV n F ts) L'
  | .ret, F, L => marksV (F none) = [] ∧ ∃ L', Ent w0 L L' ∧ R (resV n F ts) L'
  | _, _, _ => False
theorem bodyQ_r1 {t1 : Nat} {R : Value → List Res → Prop} {v1 : Value} (h1 : rv n F (.tmp t1) = v1) (h : ∃ L', Ent w0 L L' ∧ R v1 L') (hm : marksV (F none) = [] := by exact rfl) : bodyQ n w0 [t1] R .ret F L := by subst h1; exact ⟨hm, h⟩
theorem bodyQ_r2 {t1 t2 : Nat} {R : Value → List Res → Prop} {v1 v2 : Value} (h1 : rv n F (.tmp t1) = v1) (h2 : rv n F (.tmp t2) = v2) (h : ∃ L', Ent w0 L L' ∧ R (.tuple #[v1, v2]) L') (hm : marksV (F none) = [] := by exact rfl) : bodyQ n w0 [t1, t2] R .ret F L := by subst h1; subst h2; exact ⟨hm, h⟩
theorem bodyQ_r3 {t1 t2 t3 : Nat} {R : Value → List Res → Prop} {v1 v2 v3 : Value} (h1 : rv n F (.tmp t1) = v1) (h2 : rv n F (.tmp t2) = v2) (h3 : rv n F (.tmp t3) = v3) (h : ∃ L', Ent w0 L L' ∧ R (.tuple #[v1, v2, v3]) L') (hm : marksV (F none) = [] := by exact rfl) : bodyQ n w0 [t1, t2, t3] R .ret F L := by subst h1; subst h2; subst h3; exact ⟨hm, h⟩
theorem bodyQ_r0 {R : Value → List Res → Prop} (h : ∃ L', Ent w0 L L' ∧ R (.tuple #[]) L') (hm : marksV (F none) = [] := by exact rfl) : bodyQ n w0 [] R .ret F L := ⟨hm, h⟩
theorem bodyQ_n0 {R : Value → List Res → Prop} (h : ∃ L', Ent w0 L L' ∧ R (.tuple #[]) L') (hm : marksV (F none) = [] := by exact rfl) : bodyQ n w0 [] R .normal F L := ⟨hm, h⟩
theorem results_resV {fn : Func} {ts : List Nat} (hres : fn.results = (ts.map ResultVar.tmp).toArray) (hl : Nat.ble ts.length 6 = true) {a : Act} {N : Nat} (hf : Fr N a F) (w : World) : (results fn a.tmps).run P w = .ok (resV N F ts) w := by
  have he : ∀ t, a.tmps.getD t undef = rv N F (.tmp t) := fun t => congrFun hf.eval (.tmp t)
  rw [Nat.ble_eq] at hl
  rcases ts with _ | ⟨t1, _ | ⟨t2, _ | ⟨t3, _ | ⟨t4, _ | ⟨t5, _ | ⟨t6, _ | ⟨t7, ts⟩⟩⟩⟩⟩⟩⟩
  case cons.cons.cons.cons.cons.cons.cons => simp at hl
  all_goals simp [results, hres, resV, he]
theorem SatL.of {f : FuncId} {fn : Func} {c : Code} {args : List Value} {R : Value → List Res → Prop} (N : Nat) (ts : List Nat) (hf : P.funcs[f]? = some fn) (hN : fn.ntmps = N) (hnm : (fn.name == "runtime.NumGoroutine") = false) (hb : fn.body = some c)
    (hres : fn.results = (ts.map ResultVar.tmp).toArray) (hrl : Nat.ble ts.length 6 = true) (hlen : Nat.ble args.length N = true) (h : OK P N w0 (bodyQ N w0 ts R) c (argF args) L) : SatL P f args w0 L R := by
  refine ⟨⟨fn, c, hf, hnm, hb⟩, fun w hp => ?_⟩
  refine calls_of_wp hf hb ?_
  subst hN
  have hlen' : args.length ≤ fn.ntmps := by rwa [Nat.ble_eq] at hlen
  have hfr : Fr fn.ntmps { tmps := args.toArray ++ Array.replicate (fn.ntmps - args.toArray.size) undef, defers := [] } (argF args) := by
    refine ⟨rfl, by simp;omega, fun t ht => ?_⟩
    simp only [Array.getD_eq_getD_getElem?, argF, List.getD_eq_getElem?_getD]
    by_cases h : t < args.length
    · rw [Array.getElem?_append_left (by simpa using h)]
      simp
    · rw [Array.getElem?_append_right (by simpa using Nat.le_of_not_lt h), List.getElem?_eq_none (by omega)]
      simp only [List.size_toArray, Array.getElem?_replicate]
      split <;> rfl
  refine wp_mono (h w _ hfr hp) ?_
  rintro e a' w' ⟨F', L', h1, h2, h3⟩
  cases e with
  | normal => obtain ⟨hm, L'', e, h3⟩ := h3; exact ⟨h1.defers.trans hm, _, results_resV hres hrl h1 w', _, L'', rfl, e _ h2, h3⟩
  | ret => obtain ⟨hm, L'', e, h3⟩ := h3; exact ⟨h1.defers.trans hm, _, results_resV hres hrl h1 w', _, L'', rfl, e _ h2, h3⟩
  | _ => exact h3.elim
theorem OKx.use {Lw : List Res} (h : OKx P n w0 (.seq Lw) ops K rest F L) : ∀ w a, Fr n a F → Hp w0.heap.size w0 w L → wpListC P ops (fun w => Hp w0.heap.size w0 w Lw) (liftN n w0 K) rest a w := h
theorem OK.use {c : Code} (h : OK P n w0 Q c F L) : ∀ w a, Fr n a F → Hp w0.heap.size w0 w L → c.wp P (lift n w0 Q) a w := h
theorem OKx.useQ (h : OKx P n w0 .quiet ops K rest F L) : ∀ a, Fr n a F → wpQuiet P ops (fun w => Hp w0.heap.size w0 w L) (fun a' => ∃ F', Fr n a' F' ∧ K F' L) rest a := h
theorem OKx.mkQ (h : ∀ a, Fr n a F → wpQuiet P ops (fun w => Hp w0.heap.size w0 w L) (fun a' => ∃ F', Fr n a' F' ∧ K F' L) rest a) : OKx P n w0 .quiet ops K rest F L := h
theorem Ent.mk {L' : List Res} (h : ∀ w, Hp w0.heap.size w0 w L → Hp w0.heap.size w0 w L') : Ent w0 L L' := h
theorem Ent.use {L' : List Res} (h : Ent w0 L L') : ∀ w, Hp w0.heap.size w0 w L → Hp w0.heap.size w0 w L' := h
end
attribute [irreducible] OK OKx thenQ blockQ bodyQ Ent
end Go.Proofs.YthnlnffmmioapaaGreatDoor
namespace Go.Proofs.YthnlnffmmioapaaGreatDoor
open Go.RowKit
theorem TBools : SlTy Tryz.prog 133 4 1 1 (.bool false) := ⟨Tryz.underlying133, by kernel_rfl, rfl, by decide⟩
theorem ret_bool {a b : Bool} (h : a = b) : Ending.returned (.bool a) = .returned (.bool b) := by rw [h]
theorem ret_int {k : IntKind} {a b : Int} (h : a = b) : Ending.returned (.int k a) = .returned (.int k b) := by rw [h]
def ints (xs : List Int) : List Value := xs.map (Value.int .i64)
def bools (xs : List Bool) : List Value := xs.map Value.bool
theorem ints_len (xs : List Int) : (ints xs).length = xs.length := by simp [ints]
theorem bools_len (xs : List Bool) : (bools xs).length = xs.length := by simp [bools]
theorem ints_get (xs : List Int) (k : Nat) (h : k < xs.length) : (ints xs)[k]? = some (.int .i64 (xs.getD k 0)) := by simp [ints, h]
theorem bools_get (xs : List Bool) (k : Nat) (h : k < xs.length) : (bools xs)[k]? = some (.bool (xs.getD k false)) := by simp [bools, h]
theorem ints_set (xs : List Int) (k : Nat) (x : Int) : (ints xs).set k (.int .i64 x) = ints (xs.set k x) := by simp [ints, List.map_set]
theorem bools_set (xs : List Bool) (k : Nat) (x : Bool) : (bools xs).set k (.bool x) = bools (xs.set k x) := by simp [bools, List.map_set]
theorem bools_snoc (xs : List Bool) (x : Bool) : bools xs ++ [.bool x] = bools (xs ++ [x]) := by simp [bools]
def Ints (w : World) (v : Value) (xs : List Int) : Prop := Sl w v 1 xs.length (fun j => .int .i64 (xs.getD j 0))
def Bools (w : World) (v : Value) (xs : List Bool) : Prop := Sl w v 1 xs.length (fun j => .bool (xs.getD j false))
def Strs (w : World) (v : Value) (xs : List ByteArray) : Prop := Sl w v 1 xs.length (fun j => .string (xs.getD j ByteArray.empty)) ∧ ∀ s ∈ xs, s.size ≤ 140737488355328
def Tabs (w : World) (v : Value) (xs : List (List Int)) : Prop :=
  ∃ vs : List Value, Sl w v 1 xs.length (fun j => vs.getD j undef) ∧ vs.length = xs.length ∧ ∀ j, (h : j < xs.length) → Ints w (vs.getD j undef) xs[j]
structure Stem where
  names : List ByteArray
  ext : List Bool
  par : List (List Int)
def Stm (w : World) (v : Value) (s : Stem) : Prop := ∃ nv ev pv, v = .agg #[nv, ev, pv] ∧ Strs w nv s.names ∧ Bools w ev s.ext ∧ Tabs w pv s.par
section
variable {w w' : World} {v : Value}
theorem Ints.below {xs : List Int} (h : Ints w v xs) (hb : Below w.heap.size w w') : Ints w' v xs := Sl.below h hb
theorem Bools.below {xs : List Bool} (h : Bools w v xs) (hb : Below w.heap.size w w') : Bools w' v xs := Sl.below h hb
theorem Strs.below {xs : List ByteArray} (h : Strs w v xs) (hb : Below w.heap.size w w') : Strs w' v xs := ⟨Sl.below h.1 hb, h.2⟩
theorem Tabs.below {xs : List (List Int)} (h : Tabs w v xs) (hb : Below w.heap.size w w') : Tabs w' v xs := by
  obtain ⟨vs, h1, h2, h3⟩ := h
  exact ⟨vs, h1.below hb, h2, fun j hj => (h3 j hj).below hb⟩
theorem Stm.below {s : Stem} (h : Stm w v s) (hb : Below w.heap.size w w') : Stm w' v s := by
  obtain ⟨nv, ev, pv, hv, h1, h2, h3⟩ := h
  exact ⟨nv, ev, pv, hv, h1.below hb, h2.below hb, h3.below hb⟩
theorem Sl.shape {sz n : Nat} {f : Nat → Value} (h : Sl w v sz n f) : ∃ a cap, v = .slice a n cap ∧ n ≤ 140737488355328 ∧ ∀ j, j < n * sz → ∃ b off, a = some ⟨b, off, none⟩ ∧ w.cell? ⟨b, off + j, none⟩ = some (f j) := by
  obtain ⟨hl, ⟨a, cap, hv, hc⟩, _⟩ := h
  refine ⟨a, cap, hv, hl, fun j hj => ?_⟩
  rcases hc with h0 | ⟨b, off, ha, hc⟩
  · rw [h0, Nat.zero_mul] at hj;omega
  · exact ⟨b, off, ha, hc j hj⟩
theorem Ints.at {xs : List Int} (h : Ints w v xs) : ∃ a cap, v = .slice a xs.length cap ∧ xs.length ≤ 140737488355328 ∧ ∀ j, (hj : j < xs.length) → ∃ b off, a = some ⟨b, off, none⟩ ∧ w.cell? ⟨b, off + j, none⟩ = some (.int .i64 xs[j]) := by
  obtain ⟨a, cap, hv, hl, hc⟩ := Sl.shape h
  refine ⟨a, cap, hv, hl, fun j hj => ?_⟩
  obtain ⟨b, off, ha, hc⟩ := hc j (by omega)
  exact ⟨b, off, ha, by rw [hc]; simp [hj]⟩
theorem Bools.at {xs : List Bool} (h : Bools w v xs) : ∃ a cap, v = .slice a xs.length cap ∧ xs.length ≤ 140737488355328 ∧ ∀ j, (hj : j < xs.length) → ∃ b off, a = some ⟨b, off, none⟩ ∧ w.cell? ⟨b, off + j, none⟩ = some (.bool xs[j]) := by
  obtain ⟨a, cap, hv, hl, hc⟩ := Sl.shape h
  refine ⟨a, cap, hv, hl, fun j hj => ?_⟩
  obtain ⟨b, off, ha, hc⟩ := hc j (by omega)
  exact ⟨b, off, ha, by rw [hc]; simp [hj]⟩
theorem Strs.at {xs : List ByteArray} (h : Strs w v xs) : ∃ a cap, v = .slice a xs.length cap ∧ xs.length ≤ 140737488355328 ∧ ∀ j, (hj : j < xs.length) → xs[j].size ≤ 140737488355328 ∧ ∃ b off, a = some ⟨b, off, none⟩ ∧ w.cell? ⟨b, off + j, none⟩ = some (.string xs[j]) := by
  obtain ⟨a, cap, hv, hl, hc⟩ := Sl.shape h.1
  refine ⟨a, cap, hv, hl, fun j hj => ⟨h.2 _ (List.getElem_mem hj), ?_⟩⟩
  obtain ⟨b, off, ha, hc⟩ := hc j (by omega)
  exact ⟨b, off, ha, by rw [hc]; simp [hj]⟩
theorem Tabs.at {xs : List (List Int)} (h : Tabs w v xs) : ∃ a cap, v = .slice a xs.length cap ∧ xs.length ≤ 140737488355328 ∧ ∀ j, (hj : j < xs.length) → ∃ b off u, a = some ⟨b, off, none⟩ ∧ w.cell? ⟨b, off + j, none⟩ = some u ∧ Ints w u xs[j] := by
  obtain ⟨vs, h1, h2, h3⟩ := h
  obtain ⟨a, cap, hv, hl, hc⟩ := Sl.shape h1
  refine ⟨a, cap, hv, hl, fun j hj => ?_⟩
  obtain ⟨b, off, ha, hc⟩ := hc j (by omega)
  exact ⟨b, off, _, ha, hc, h3 j hj⟩
end
variable {B : Nat} {w0 w : World} {L : List Res}
theorem Hp.ints (h : Hp B w0 w L) (i : Nat) {e : TypeId} {n : Nat} {v : Value} {xs : List Int} (hi : L[i]? = some (.row e 1 v n (ints xs))) (hn : n ≤ 140737488355328) : Ints w v xs := by
  have hl : n = xs.length := by
    have ho : w.ownsRow B e 1 v n (Go.Proofs.YthnlnffmmioapaaGreatDoor.ints xs) := h.ok _ (List.mem_of_getElem? hi)
    have := ho.1
    rw [ints_len] at this
    omega
  subst hl
  exact h.sl i hi hn (fun j hj => ints_get xs j (by omega))
theorem Hp.bools (h : Hp B w0 w L) (i : Nat) {e : TypeId} {n : Nat} {v : Value} {xs : List Bool} (hi : L[i]? = some (.row e 1 v n (bools xs))) (hn : n ≤ 140737488355328) : Bools w v xs := by
  have hl : n = xs.length := by
    have ho : w.ownsRow B e 1 v n (Go.Proofs.YthnlnffmmioapaaGreatDoor.bools xs) := h.ok _ (List.mem_of_getElem? hi)
    have := ho.1
    rw [bools_len] at this
    omega
  subst hl
  exact h.sl i hi hn (fun j hj => bools_get xs j (by omega))
end Go.Proofs.YthnlnffmmioapaaGreatDoor
