/-
  Part 10 of the proof: Idx, As38, Any, Be38, Gu, As39, Arr, Ro39, Sm38, Lc38, Rp39, De39. No statement of the seat is proved here.
-/
import Derived.Test.YtpfemholpigdeaaDoorMHTt379
namespace Go.Proofs.YtpfemholpigdeaaDoor
open Go.RowKit
def IdxW (p : Nat → Bool) (N : Nat) (u : Value) (L : List Res) : Prop := L = [] ∧ ((∃ k : Nat, k < N ∧ u = .int .i64 (k : Int) ∧ p k = true ∧ ∀ j, j < k → p j = false) ∨ (u = .int .i64 (-1) ∧ ∀ j, j < N → p j = false))
set_option maxRecDepth 100000 in
set_option maxHeartbeats 4000000 in
theorem indexW_int_sat (v : Value) (N : Nat) (e : Nat → Value) (p : Nat → Bool) (g : FuncId) (cs : Array Value) (w : World) (h : Sl w v 1 N e) (hf : ∀ k, k < N → ∀ w1, Below w.heap.size w w1 → SatV Tryd.prog g (e k :: cs.toList) w1 (.bool (p k))) :
    Sat Tryd.prog 73 [v, .func (.func g) #[] cs] w (IdxW p N) := by
  have hN := h.bound
  refine SatL.of 19 [4] Tryd.func73 (by kernel_rfl) (by kernel_rfl) rfl rfl rfl rfl ?_
  repeat' (first|(apply OK_seq)|(apply thenQ_n)|(apply OK_region)|(apply OKx_nilK)|(apply OK_block)|(apply blockQ_n)|(apply blockQ_s)|(apply thenQ_e)|(apply blockQ_e;exact rfl)|(apply thenQ_r)|(apply blockQ_r)|(apply OK_condT;exact rfl)|(apply OK_condF;exact rfl)|(apply OK_skip)|(apply OK_exit)|(apply OK_ret)|(apply OKx_move;(conv=>lhs;whnf)<;>exact rfl)|(apply OKx_assign;(conv=>lhs;whnf)<;>exact rfl)|(apply OKx_ldB;exact rfl;(first | exact at0|exact at1|exact at2|exact at3|exact at4|exact at5|exact at6|exact at7);exact rfl)|(apply OKx_ldR;(conv=>lhs;whnf)<;>exact rfl;(with_reducible assumption))|(apply OKx_ldI;exact rfl;(first | exact at0|exact at1|exact at2|exact at3|exact at4|exact at5|exact at6|exact at7);omega)|(apply OKx_len;exact rfl)|(apply OKx_lenR;(conv=>lhs;whnf)<;>exact rfl;(with_reducible assumption))|(apply OKx_lenR2;(conv=>lhs;whnf)<;>exact rfl;(with_reducible assumption))|(apply OKx_lenO;(conv=>lhs;whnf)<;>exact rfl;(first | exact at0|exact at1|exact at2|exact at3|exact at4|exact at5|exact at6|exact at7))|(apply OKx_lss;exact rfl;exact rfl;all_goals (intro _; try (exfalso;omega)))|(apply OKx_idxO;exact rfl;exact rfl;omega)|(apply OKx_idxR;(conv=>lhs;whnf)<;>exact rfl;(with_reducible assumption);exact rfl;omega;intro _ _)|(apply OKx_idxOz;exact rfl;exact rfl;omega;omega)|(apply OKx_idxRz;(conv=>lhs;whnf)<;>exact rfl;(with_reducible assumption);exact rfl;omega;omega;intro _ _)|(apply OKx_inc;exact rfl;exact rfl;omega)|(apply OKx_addN;exact rfl;exact rfl;omega)|(apply OKx_add;exact rfl;exact rfl;omega;omega))
  refine OK_loop1 8 [4, 5, 8, 9, 10, 11, 12, 13, 14, 15, 16, 17, 18] (fun m v L => ∃ k : Nat, k + m = N ∧ v = .int .i64 (k : Int) ∧ (∀ j, j < k → p j = false) ∧ L = []) N [] (Ent.refl _ _) ⟨0, by omega, rfl, fun j hj => absurd hj (by omega), rfl⟩ ?_
  rintro m v' L G ⟨k, hm, rfl, H, rfl⟩
  repeat' (first|(apply OK_seq)|(apply thenQ_n)|(apply OK_region)|(refine OKx_callB (f := g) rfl rfl rfl (fun w hp => hf k (by omega) w hp.below) ?_ ?_ <;> intro hq)|(apply OKx_nilK)|(apply OK_block)|(apply blockQ_n)|(apply blockQ_s)|(apply thenQ_e)|(apply blockQ_e;exact rfl)|(apply thenQ_r)|(apply blockQ_r)|(apply OK_condT;exact rfl)|(apply OK_condF;exact rfl)|(apply OK_skip)|(apply OK_exit)|(apply OK_ret)|(apply OKx_move;(conv=>lhs;whnf)<;>exact rfl)|(apply OKx_assign;(conv=>lhs;whnf)<;>exact rfl)|(apply OKx_ldB;exact rfl;(first | exact at0|exact at1|exact at2|exact at3|exact at4|exact at5|exact at6|exact at7);exact rfl)|(apply OKx_ldR;(conv=>lhs;whnf)<;>exact rfl;(with_reducible assumption))|(apply OKx_ldI;exact rfl;(first | exact at0|exact at1|exact at2|exact at3|exact at4|exact at5|exact at6|exact at7);omega)|(apply OKx_len;exact rfl)|(apply OKx_lenR;(conv=>lhs;whnf)<;>exact rfl;(with_reducible assumption))|(apply OKx_lenR2;(conv=>lhs;whnf)<;>exact rfl;(with_reducible assumption))|(apply OKx_lenO;(conv=>lhs;whnf)<;>exact rfl;(first | exact at0|exact at1|exact at2|exact at3|exact at4|exact at5|exact at6|exact at7))|(apply OKx_lss;exact rfl;exact rfl;all_goals (intro _; try (exfalso;omega)))|(apply OKx_idxO;exact rfl;exact rfl;omega)|(apply OKx_idxR;(conv=>lhs;whnf)<;>exact rfl;(with_reducible assumption);exact rfl;omega;intro _ _)|(apply OKx_idxOz;exact rfl;exact rfl;omega;omega)|(apply OKx_idxRz;(conv=>lhs;whnf)<;>exact rfl;(with_reducible assumption);exact rfl;omega;omega;intro _ _)|(apply OKx_inc;exact rfl;exact rfl;omega)|(apply OKx_addN;exact rfl;exact rfl;omega)|(apply OKx_add;exact rfl;exact rfl;omega;omega))
  · refine bodyQ_r1 (by ((conv=>lhs;whnf)<;>exact rfl)) ?_
    exact ⟨_, Ent.refl _ _, rfl, .inl ⟨k, by omega, rfl, hq, H⟩⟩
  · refine ⟨by (repeat' (first | refine agree_upd rfl ?_ | exact agree_over | exact agree_refl _ _ | refine agree_over2 rfl ?_)), m - 1, _, by omega, Ent.refl _ _, ?_⟩
    refine ⟨k + 1, by omega, rfl, fun j hj => ?_, rfl⟩
    by_cases hjk : j < k
    · exact H j hjk
    · obtain rfl : j = k := by omega
      exact hq
  · refine bodyQ_r1 (by ((conv=>lhs;whnf)<;>exact rfl)) ?_
    exact ⟨_, Ent.refl _ _, rfl, .inr ⟨rfl, fun j hj => H j (by omega)⟩⟩
theorem find_first (P : Int → Bool) : ∀ (xs : List Int) (i : Nat), i < xs.length → P (xs.getD i 0) = true → (∀ j, j < i → P (xs.getD j 0) = false) → xs.find? P = some (xs.getD i 0) := by
  intro xs
  induction xs with
  | nil => intro i h; simp at h
  | cons x xs ih =>
    intro i hi h1 h2
    cases i with
    | zero =>
      have e : P x = true := h1
      rw [List.find?_cons_of_pos e]; rfl
    | succ i =>
      have e : ¬ P x = true := by have := h2 0 (by omega); simpa using this
      rw [List.find?_cons_of_neg e]
      exact ih i (by simpa using hi) h1 (fun j hj => h2 (j + 1) (by omega))
end Go.Proofs.YtpfemholpigdeaaDoor
namespace Go.Proofs.YtpfemholpigdeaaDoor
open Go.RowKit
theorem Ent.pickT {w0 : World} (A X : List Res) (is : List Nat) (hn : nodupB is = true) : Ent w0 (A ++ X) (pickL A is ++ X) := Ent.mk fun w hp => by
  induction is with
  | nil => exact hp.sub (List.sublist_append_right A X)
  | cons i is ih =>
    have hm : memN i is = false := by
      cases hb : memN i is with
      | false => rfl
      | true => simp [nodupB, hb] at hn
    have ih := ih (by simpa [nodupB, hm] using hn)
    unfold pickL at ih ⊢
    rw [List.filterMap_cons]
    cases hi : A[i]? with
    | none => exact ih
    | some r =>
      have hil := (List.getElem?_eq_some_iff.1 hi).1
      have hi' : (A ++ X)[i]? = some r := by rw [List.getElem?_append_left hil]; exact hi
      refine ih.cons (hp.ok r (List.mem_of_getElem? hi')) fun s hs => ?_
      rcases List.mem_append.1 hs with hs | hs
      · obtain ⟨j, hj, hjs⟩ := List.mem_filterMap.1 hs
        have hjl := (List.getElem?_eq_some_iff.1 hjs).1
        have hij : i ≠ j := by
          rintro rfl
          have := (memN_iff i is).2 hj
          rw [hm] at this; cases this
        exact hp.apart hij hi' (j := j) (by rw [List.getElem?_append_left hjl]; exact hjs)
      · obtain ⟨j, hj, rfl⟩ := List.getElem_of_mem hs
        exact hp.apart (i := i) (j := A.length + j) (by omega) hi' (by rw [List.getElem?_append_right (by omega)]; simp [hj])
end Go.Proofs.YtpfemholpigdeaaDoor
namespace Go.Proofs.YtpfemholpigdeaaDoor
open Go.RowKit
def maskS (n : Nat) (S : List Nat) : Array Bool := ((List.range n).map fun i => memN i S).toArray
section
variable {P : Program} {n : Nat} {w0 : World} {Q : Exit → Fm → List Res → Prop} {K : Fm → List Res → Prop} {F : Fm} {L : List Res} {l : List Oper} {N f : Nat} {S : List Nat}
def OKa (P : Program) (n : Nat) (w0 : World) (K : Fm → List Res → Prop) (l : List Oper) (N f : Nat) (S : List Nat) (F : Fm) (L : List Res) : Prop :=
  ∀ w a, Fr n a F → Hp w0.heap.size w0 w L → wpAny P .any l.toArray (liftN n w0 K) f (maskS N S) a w
theorem OKa.use (h : OKa P n w0 K l N f S F L) : ∀ w a, Fr n a F → Hp w0.heap.size w0 w L → wpAny P .any l.toArray (liftN n w0 K) f (maskS N S) a w := h
theorem OKa_end (hr : (Region.ready .any l.toArray (maskS N S)).isEmpty = true) (h : K F L) : OKa P n w0 K l N 0 S F L :=
  fun w a hf hp => ⟨List.isEmpty_iff.1 hr, rfl, F, L, hf, hp, h⟩
def kidOk (l : List Oper) (N : Nat) (S : List Nat) (i : Nat) (S' : List Nat) : Bool := (maskS N S').toList == ((maskS N S).setIfInBounds i true).toList
theorem kidOk_eq {i : Nat} {S' : List Nat} (h : kidOk l N S i S' = true) : maskS N S' = (maskS N S).setIfInBounds i true := by
  unfold kidOk at h
  exact Array.toList_inj.1 (beq_iff_eq.1 h)
end
attribute [irreducible] OKa
end Go.Proofs.YtpfemholpigdeaaDoor
namespace Go.Proofs.YtpfemholpigdeaaDoor
open Go.RowKit
theorem SatY.mono {P : Program} {l : Nat} {args : List Value} {w0 : World} {L : List Res} {R R' : Value → List Res → Prop} (h : SatY P l args w0 L R) (hr : ∀ v L, R v L → R' v L) : SatY P l args w0 L R' :=
  fun w hp => let ⟨fn, t, as2, b, h1, h2⟩ := h w hp; ⟨fn, t, as2, b, h1, h2.mono fun e w' ⟨v, L', a, b, c⟩ => ⟨v, L', a, b, hr _ _ c⟩⟩
end Go.Proofs.YtpfemholpigdeaaDoor
namespace Go.Proofs.YtpfemholpigdeaaDoor
open Go.RowKit
theorem Fr.yieldU {n : Nat} {F : Fm} {ops : Array Oper} {a : Act} (hf : Fr n a F) {j t : Nat} (hj : (ops[j]?).bind (·.dst) = some t) (hb : rv n F (.tmp t) = undef) : yielded ops a.tmps j = none := by
  have he := hf.eval
  have h1 : a.eval (.tmp t) = undef := by rw [he]; exact hb
  unfold yielded
  rw [hj]
  simp only [Option.bind_some]
  simp only [Act.eval, Frame.eval] at h1
  split
  · rename_i b h2
    simp [h2, undef] at h1
  · rfl
theorem OKx_guardU {P : Program} {n : Nat} {w0 : World} {K : Fm → List Res → Prop} {F : Fm} {L : List Res} {m : Md} {ops : Array Oper} {rest : List Oper} {d : Option Nat} {o : Op} {ty : TypeId} {pos : String} {aft : Array Edge} {j t : Nat} {b : Bool} (hj : (ops[j]?).bind (·.dst) = some t) (hb : rv n F (.tmp t) = undef)
    (h : OKx P n w0 m ops K rest (updo F d undef) L) : OKx P n w0 m ops K (⟨d, o, ty, pos, aft, some (j, b)⟩ :: rest) F L := by
  have key : ∀ a : Act, Fr n a F → Region.wanted (⟨d, o, ty, pos, aft, some (j, b)⟩ : Oper) (yielded ops a.tmps) = false := by
    intro a hf
    simp only [Region.wanted, Fr.yieldU hf hj hb]
    cases b <;> rfl
  unfold OKx at h ⊢
  cases m with
  | seq Lw =>
    intro w a hf hp
    have h1 := h w _ (hf.put d undef) hp
    refine ⟨h1.cls, ?_⟩
    rw [key a hf]
    exact h1
  | quiet =>
    intro a hf
    unfold wpQuiet
    rw [key a hf]
    exact h _ (hf.put d undef)
  | pure =>
    intro a hf
    unfold wpPure
    rw [key a hf]
    exact h _ (hf.put d undef)
theorem OKx_bneq {P : Program} {n : Nat} {w0 : World} {K : Fm → List Res → Prop} {F : Fm} {L : List Res} {m : Md} {ops : Array Oper} {rest : List Oper} {d : Option Nat} {ty : TypeId} {pos : String} {aft : Array Edge} {t ut : TypeId} {x y : Operand} {a b : Bool}
    (ht : P.underlying t = some .bool) (hx : rv n F x = .bool a) (hy : rv n F y = .bool b) (kk : OKx P n w0 m ops K rest (updo F d (.bool (!(a == b)))) L) : OKx P n w0 m ops K (⟨d, .binOp .neq t x y ut, ty, pos, aft, none⟩ :: rest) F L :=
  OKx_still (fun w _ _ _ _ _ => by
    have hg : (eqGuard .neq t x y (.bool a) (.bool b)).run P w = .ok () w := by simp [eqGuard]
    have h := run_neq_bool (P := P) (w := w) t a b ht
    simp [execOp, hx, hy, Sem.run_bind, hg, h, Result.andThen]) kk
theorem OKx_beq {P : Program} {n : Nat} {w0 : World} {K : Fm → List Res → Prop} {F : Fm} {L : List Res} {m : Md} {ops : Array Oper} {rest : List Oper} {d : Option Nat} {ty : TypeId} {pos : String} {aft : Array Edge} {t ut : TypeId} {x y : Operand} {a b : Bool}
    (ht : P.underlying t = some .bool) (hx : rv n F x = .bool a) (hy : rv n F y = .bool b) (kk : OKx P n w0 m ops K rest (updo F d (.bool (a == b))) L) : OKx P n w0 m ops K (⟨d, .binOp .eql t x y ut, ty, pos, aft, none⟩ :: rest) F L :=
  OKx_still (fun w _ _ _ _ _ => by
    have hg : (eqGuard .eql t x y (.bool a) (.bool b)).run P w = .ok () w := by simp [eqGuard]
    have h := run_eql_bool (P := P) (w := w) t a b ht
    simp [execOp, hx, hy, Sem.run_bind, hg, h, Result.andThen]) kk
end Go.Proofs.YtpfemholpigdeaaDoor
namespace Go.Proofs.YtpfemholpigdeaaDoor
open Go.RowKit
theorem SatL.post {P : Program} {f : FuncId} {args : List Value} {w0 : World} {L : List Res} {R R' : Value → List Res → Prop} (h : SatL P f args w0 L R) (hr : ∀ v L', R v L' → ∃ L'', Ent w0 L' L'' ∧ R' v L'') : SatL P f args w0 L R' :=
  ⟨h.enters, fun w hp => (h.calls w hp).mono fun e w' ⟨v, L', h1, h2, h3⟩ => by
    obtain ⟨L'', e', h4⟩ := hr v L' h3
    exact ⟨v, L'', h1, e'.use _ h2, h4⟩⟩
end Go.Proofs.YtpfemholpigdeaaDoor
namespace Go.Proofs.YtpfemholpigdeaaDoor
open Go.RowKit
section
variable {P : Program} {n : Nat} {w0 : World} {K : Fm → List Res → Prop} {F : Fm} {L : List Res} {m : Md} {Lw : List Res} {ops : Array Oper} {rest : List Oper}
  {d : Option Nat} {ty : TypeId} {pos : String} {aft : Array Edge}
theorem OKx_idxA {t len e : Nat} {z : Value} [T : TOne P e z] (hu : P.underlying t = some (.array len e)) {x ix : Operand} {g o : Nat} {k : IntKind} {i : Nat} (hx : rv n F x = .pointer (some ⟨g, o, none⟩)) (hix : rv n F ix = .int k (i : Int)) (h1 : i < len)
    (kk : OKx P n w0 m ops K rest (updo F d (.pointer (some ⟨g, o + i, none⟩))) L) : OKx P n w0 m ops K (⟨d, .indexAddr t x ix, ty, pos, aft, none⟩ :: rest) F L :=
  OKx_still (fun w _ _ _ _ _ => by
    have hu' : (underlying t).run P w = .ok (.array len e) w := by simp [underlying, program, Sem.run_bind, Sem.run, hu, Result.andThen]
    simp [execOp, Instr.indexAt, hx, hix, asIntOf, Sem.run_bind, hu', T.size, Result.andThen, Instr.sureAddr, h1, add_at]) kk
theorem OKx_idxAz {t len e : Nat} {z : Value} [T : TOne P e z] (hu : P.underlying t = some (.array len e)) {x ix : Operand} {g o : Nat} {k : IntKind} {i : Int} (hx : rv n F x = .pointer (some ⟨g, o, none⟩)) (hix : rv n F ix = .int k i) (h0 : 0 ≤ i) (h1 : i < len)
    (kk : OKx P n w0 m ops K rest (updo F d (.pointer (some ⟨g, o + i.toNat, none⟩))) L) : OKx P n w0 m ops K (⟨d, .indexAddr t x ix, ty, pos, aft, none⟩ :: rest) F L := by
  obtain ⟨j, rfl⟩ := Int.eq_ofNat_of_zero_le h0
  exact OKx_idxA hu hx hix (by omega) kk
end
end Go.Proofs.YtpfemholpigdeaaDoor
namespace Go.Proofs.YtpfemholpigdeaaDoor
open Go.RowKit
section
variable {P : Program} {n : Nat} {w0 : World} {Q : Exit → Fm → List Res → Prop} {K : Fm → List Res → Prop} {F : Fm} {L : List Res} {m : Md} {ops : Array Oper} {rest : List Oper} {d : Option Nat} {ty : TypeId} {pos : String} {aft : Array Edge}
theorem OK_world {c : Code} (h : ∀ w, Hp w0.heap.size w0 w L → OK P n w0 Q c F L) : OK P n w0 Q c F L := OK.mk' fun w a hf hp => (h w hp).use w a hf hp
theorem OKx_ldH {t : TypeId} {z : Value} [T : TOne P t z] {x : Operand} {b k : Nat} {v : Value} (hx : rv n F x = .pointer (some ⟨b, k, none⟩)) (hc : ∀ w, Hp w0.heap.size w0 w L → w.cell? ⟨b, k, none⟩ = some v)
    (kk : OKx P n w0 m ops K rest (updo F d v) L) : OKx P n w0 m ops K (⟨d, .load t x, ty, pos, aft, none⟩ :: rest) F L :=
  OKx_still (fun w hp _ _ _ _ => run_load1 T hx (hc w hp) _ _ _ _) kk
theorem Sl.form {v : Value} {N : Nat} {f : Nat → Value} {C : World → Prop} (h : ∀ w, C w → Sl w v 1 N f) (w1 : World) (h1 : C w1) : ∃ a c, v = .slice a N c ∧ (0 < N → ∃ b o, a = some ⟨b, o, none⟩ ∧ ∀ w, C w → ∀ j, j < N → w.cell? ⟨b, o + j, none⟩ = some (f j)) := by
  obtain ⟨a, c, rfl, _⟩ := (h w1 h1).out
  refine ⟨a, c, rfl, fun h0 => ?_⟩
  obtain ⟨a2, c2, e, hc⟩ := (h w1 h1).out
  simp only [Value.slice.injEq] at e
  obtain ⟨rfl, _, rfl⟩ := e
  rcases hc with hc | ⟨b, o, rfl, _⟩
  · omega
  refine ⟨b, o, rfl, fun w hw j hj => ?_⟩
  obtain ⟨a2, c2, e, hc⟩ := (h w hw).out
  simp only [Value.slice.injEq] at e
  obtain ⟨rfl, _, rfl⟩ := e
  rcases hc with hc | ⟨b2, o2, e2, hc⟩
  · omega
  simp only [Option.some.injEq, Addr.mk.injEq] at e2
  obtain ⟨rfl, rfl, _⟩ := e2
  exact hc j (by omega)
end
end Go.Proofs.YtpfemholpigdeaaDoor
namespace Go.Proofs.YtpfemholpigdeaaDoor
open Go.RowKit
def CV (l : List (Int × Int)) (j : Nat) : Nat → Value
  | 0 => .int .i64 (l.getD j (0, 0)).1
  | _ => .int .i64 (l.getD j (0, 0)).2
def Chs (w : World) (v : Value) (l : List (Int × Int)) : Prop := Sl2 w v 2 l.length (CV l)
theorem Chs.below {w w' : World} {v : Value} {l : List (Int × Int)} (h : Chs w v l) (hb : Below w.heap.size w w') : Chs w' v l := Sl2.below h hb
end Go.Proofs.YtpfemholpigdeaaDoor
namespace Go.Proofs.YtpfemholpigdeaaDoor
open Go.RowKit
theorem Pt.below {w w' : World} {p : Value} {sz : Nat} {f : Nat → Value} (h : Pt w p sz f) (hb : Below w.heap.size w w') : Pt w' p sz f := by
  obtain ⟨b, o, rfl, hc⟩ := h
  exact ⟨b, o, rfl, fun j hj => (hb.cell (World.block_lt_of_cell? w _ (hc j hj))).trans (hc j hj)⟩
end Go.Proofs.YtpfemholpigdeaaDoor
namespace Go.Proofs.YtpfemholpigdeaaDoor
theorem okPar_getD {par : List (List Int)} (h : okPar par) (k : Nat) : ∀ p ∈ par.getD k [], 0 ≤ p ∧ p < k := fun p hp => by
  by_cases hk : k < par.length
  · rw [getD_lt _ _ _ hk] at hp; exact h k hk p hp
  · rw [getD_ge _ _ _ (by omega)] at hp; simp at hp
end Go.Proofs.YtpfemholpigdeaaDoor
namespace Go.Proofs.YtpfemholpigdeaaDoor
open Go.RowKit
section
variable {P : Program} {n : Nat} {w0 : World} {K : Fm → List Res → Prop} {F : Fm} {L : List Res} {m : Md} {Lw : List Res} {ops : Array Oper} {rest : List Oper}
  {d : Option Nat} {ty : TypeId} {pos : String} {aft : Array Edge}
theorem OKx_allocE {e sz : Nat} {zs : List Value} [T : TAgg P e sz zs] [hE : Keeps w0 L Lw] (xs : List Value) (hx : zs = xs) (kk : ∀ g, OKx P n w0 (.seq Lw) ops K rest (updo F d (.pointer (some ⟨g, 0, none⟩))) (.box e g xs :: L)) :
    OKx P n w0 (.seq Lw) ops K (⟨d, .alloc e, ty, pos, aft, none⟩ :: rest) F L := by
  subst hx
  exact OKx_allocA kk
theorem OKx_stBg {t : TypeId} {z : Value} [T : TOne P t z] {x y : Operand} {g k : Nat} {v : Value} [hE : Keeps w0 L Lw] (i : Nat) {e : TypeId} {cs cs' : List Value} {L' : List Res} (hx : rv n F x = .pointer (some ⟨g, k, none⟩)) (hy : rv n F y = v) (h1 : v.oneCell' = true) (hv : v.cells = #[v]) (hi : L[i]? = some (.box e g cs)) (hk : k < cs.length)
    (hs : cs.set k v = cs') (hL : L.set i (.box e g cs') = L') (kk : OKx P n w0 (.seq Lw) ops K rest (updo F d undef) L') : OKx P n w0 (.seq Lw) ops K (⟨d, .store t x y, ty, pos, aft, none⟩ :: rest) F L := by
  subst hs; subst hL
  refine OKx_act0 hE.ent fun w hp => ⟨_, _, ?_, hp.setBox hi k v, kk⟩
  obtain ⟨hc, hf, _, _⟩ := hp.boxAt i hi
  exact run_store1 T hx hy h1 hv ((hc k).trans (List.getElem?_eq_getElem hk)) (hf k) _ _ _ _
end
def frmC (f : Nat → Bool) : List Value := (List.range 64).map fun j => Value.bool (f j)
theorem frmC_len (f : Nat → Bool) : (frmC f).length = 64 := by simp [frmC]
theorem frmC_at (f : Nat → Bool) (j : Nat) (h : j < 64) : (frmC f)[j]? = some (.bool (f j)) := by simp [frmC, h]
theorem frmC_set (f f' : Nat → Bool) (k : Nat) (b : Bool) (h : ∀ j, j < 64 → f' j = if j = k then b else f j) : (frmC f).set k (.bool b) = frmC f' := by
  apply List.ext_getElem
  · simp [frmC]
  · intro j h1 h2
    have hj : j < 64 := by simpa [frmC] using h2
    rw [List.getElem_set]
    simp only [frmC, List.getElem_map, List.getElem_range, h j hj]
    by_cases e : k = j
    · rw [if_pos e, if_pos e.symm]
    · rw [if_neg e, if_neg (fun e2 => e e2.symm)]
def dscL (par : List (List Int)) (i : Nat) : Nat → List Bool
  | 0 => []
  | k + 1 => dscL par i k ++ [if k < i then false else if k = i then true else (par.getD k []).any fun p => (dscL par i k).getD p.toNat false]
theorem dscL_len (par : List (List Int)) (i : Nat) : ∀ k, (dscL par i k).length = k
  | 0 => rfl
  | k + 1 => by rw [dscL, List.length_append, dscL_len par i k]; rfl
theorem dscL_old (par : List (List Int)) (i j : Nat) : ∀ k, j < k → (dscL par i (k + 1)).getD j false = (dscL par i k).getD j false := fun k h => by
  rw [dscL, List.getD_eq_getElem?_getD, List.getElem?_append_left (by rw [dscL_len]; exact h), List.getD_eq_getElem?_getD]
theorem dscL_new (par : List (List Int)) (i k : Nat) : (dscL par i (k + 1)).getD k false = if k < i then false else if k = i then true else (par.getD k []).any fun p => (dscL par i k).getD p.toNat false := by
  rw [dscL, List.getD_eq_getElem?_getD, List.getElem?_append_right (by rw [dscL_len]; exact Nat.le_refl _), dscL_len, Nat.sub_self]
  rfl
theorem dscL_low (par : List (List Int)) (i j : Nat) (hj : j < i) : ∀ k, (dscL par i k).getD j false = false
  | 0 => rfl
  | k + 1 => by
    by_cases h : j < k
    · rw [dscL_old par i j k h]; exact dscL_low par i j hj k
    · by_cases h2 : j = k
      · subst h2; rw [dscL_new, if_pos hj]
      · exact getD_ge _ _ _ (by rw [dscL_len];omega)
def dscF (par : List (List Int)) (i k j : Nat) : Bool := (dscL par i k).getD j false
def dsnL (par : List (List Int)) (i k : Nat) : List Int := ((List.range k).filter (fun j => decide (i < j) && dscF par i k j)).map (fun j : Nat => (j : Int))
theorem dsnL_step (par : List (List Int)) (i k : Nat) : dsnL par i (k + 1) = dsnL par i k ++ if i < k ∧ dscF par i (k + 1) k = true then [(k : Int)] else [] := by
  unfold dsnL
  rw [List.range_succ, List.filter_append, List.map_append]
  congr 1
  · congr 1
    apply List.filter_congr
    intro j hj
    have hj := List.mem_range.1 hj
    unfold dscF
    rw [dscL_old par i j k hj]
  · by_cases h : i < k ∧ dscF par i (k + 1) k = true
    · rw [if_pos h, List.filter_cons_of_pos (by simp [h.1, h.2])]; rfl
    · rw [if_neg h, List.filter_cons_of_neg (by simpa using h)]; rfl
theorem dsnL_start (par : List (List Int)) (i : Nat) : dsnL par i (i + 1) = [] := by
  unfold dsnL
  rw [List.filter_eq_nil_iff.2]
  · rfl
  · intro j hj
    have := List.mem_range.1 hj
    rw [decide_eq_false (by omega)]; simp
theorem dsnL_len (par : List (List Int)) (i k : Nat) : (dsnL par i k).length ≤ k := by
  unfold dsnL
  rw [List.length_map]
  exact Nat.le_trans (List.length_filter_le _ _) (by simp)
theorem anyN_any39 (xs : List Int) (P : Int → Bool) : anyN (fun j => P (xs.getD j 0)) xs.length = xs.any P := by
  cases h : xs.any P with
  | true =>
    obtain ⟨x, hx, hp⟩ := List.any_eq_true.1 h
    obtain ⟨j, hj, rfl⟩ := List.getElem_of_mem hx
    exact anyN_hit hj (by rw [getD_lt _ _ _ hj]; exact hp)
  | false =>
    rw [List.any_eq_false] at h
    exact anyN_none fun j hj => by
      have := h _ (List.getElem_mem hj)
      rw [getD_lt _ _ _ hj]
      simpa using this
set_option maxRecDepth 100000 in
set_option maxHeartbeats 4000000 in
theorem dsc1_sat (g : Nat) (f : Nat → Bool) (p : Int) (w : World) (h : ∀ j, j < 64 → w.cell? ⟨g, j, none⟩ = some (.bool (f j))) (h0 : 0 ≤ p) (h1 : p.toNat < 64) : SatV Tryd.prog 54 [.int .i64 p, .pointer (some ⟨g, 0, none⟩)] w (.bool (f p.toNat)) := by
  have hc := h p.toNat h1
  refine SatL.of 7 [3] Tryd.func54 (by kernel_rfl) (by kernel_rfl) rfl rfl rfl rfl ?_
  repeat' (first|(apply OK_seq)|(apply thenQ_n)|(apply OK_region)|(apply OKx_gi; refine OKx_idxAz Tryd.underlying91 rfl rfl h0 (by omega) ?_)|(apply OKx_gl; refine OKx_ldR rfl ⟨_, _, rfl, by rw [Nat.zero_add]; exact hc⟩ ?_)|(apply OKx_nilK)|(apply OK_block)|(apply blockQ_n)|(apply blockQ_s)|(apply thenQ_e)|(apply blockQ_e;exact rfl)|(apply thenQ_r)|(apply blockQ_r)|(apply OK_condT;exact rfl)|(apply OK_condF;exact rfl)|(apply OK_skip)|(apply OK_exit)|(apply OK_ret)|(apply OKx_move;(conv=>lhs;whnf)<;>exact rfl)|(apply OKx_assign;(conv=>lhs;whnf)<;>exact rfl)|(apply OKx_ldB;exact rfl;(first | exact at0|exact at1|exact at2|exact at3|exact at4|exact at5|exact at6|exact at7);exact rfl)|(apply OKx_ldR;(conv=>lhs;whnf)<;>exact rfl;(with_reducible assumption))|(apply OKx_idxR2;(conv=>lhs;whnf)<;>exact rfl;(with_reducible assumption);exact rfl;omega;intro _ _)|(apply OKx_ldBo;exact rfl;(first | exact at0|exact at1|exact at2|exact at3|exact at4|exact at5|exact at6|exact at7);omega))
  refine bodyQ_r1 (by ((conv=>lhs;whnf)<;>exact rfl)) ?_
  exact ⟨_, Ent.nil, rfl, rfl⟩
def DscR (s : Stem) (i : Int) (u : Value) (L : List Res) : Prop :=
  (chkI s i ≠ 0 ∧ u = .tuple #[.slice none 0 0, .int .i64 (chkI s i)] ∧ L = []) ∨
  (chkI s i = 0 ∧ ∃ a n c, n = (dsnL s.par i.toNat s.par.length).length ∧ u = .tuple #[.slice a n c, .int .i64 0] ∧ (0 < n → ∃ g, a = some ⟨g, 0, none⟩) ∧ L = [.row 3 1 (.slice a n c) n (ints (dsnL s.par i.toNat s.par.length))])
set_option maxRecDepth 100000 in
set_option maxHeartbeats 4000000 in
theorem Desc_sat (v : Value) (s : Stem) (i : Int) (w : World) (h : Stm w v s) : Sat Tryd.prog 18 [v, .int .i64 i] w (DscR s i) := by
  have hst := h
  obtain ⟨nv, ev, pv, rfl, hS, _, hP⟩ := h
  obtain ⟨fv, hpv, hrow⟩ := hP.rows
  have hnv := hS.sl
  have hpb := hpv.bound
  by_cases hc : chkI s i = 0
  rotate_left
  · refine SatL.of 44 [4, 5] Tryd.func18 (by kernel_rfl) (by kernel_rfl) rfl rfl rfl rfl ?_
    repeat' (first|(apply OK_seq)|(apply thenQ_n)|(apply OK_region)|(apply OKx_gc 53;exact rfl; refine OKx_callV (f := 53) rfl rfl rfl (fun w1 hp => chk36_sat _ s i w1 (hst.below hp.below)) ?_)|(apply OKx_nilK)|(apply OK_block)|(apply blockQ_n)|(apply blockQ_s)|(apply thenQ_e)|(apply blockQ_e;exact rfl)|(apply thenQ_r)|(apply blockQ_r)|(apply OK_condT;exact rfl)|(apply OK_condF;exact rfl)|(apply OK_skip)|(apply OK_exit)|(apply OK_ret)|(apply OKx_move;(conv=>lhs;whnf)<;>exact rfl)|(apply OKx_assign;(conv=>lhs;whnf)<;>exact rfl)|(apply OKx_ldB;exact rfl;(first | exact at0|exact at1|exact at2|exact at3|exact at4|exact at5|exact at6|exact at7);exact rfl)|(apply OKx_ldR;(conv=>lhs;whnf)<;>exact rfl;(with_reducible assumption))|(apply OKx_len;exact rfl)|(apply OKx_lenR;(conv=>lhs;whnf)<;>exact rfl;(with_reducible assumption))|(apply OKx_lenR2;(conv=>lhs;whnf)<;>exact rfl;(with_reducible assumption))|(apply OKx_lenO;(conv=>lhs;whnf)<;>exact rfl;(first | exact at0|exact at1|exact at2|exact at3|exact at4|exact at5|exact at6|exact at7))|(apply OKx_lss;exact rfl;exact rfl;all_goals (intro _; try (exfalso;omega)))|(apply OKx_neq;exact rfl;exact rfl;all_goals (intro _; try (exfalso;omega)))|(apply OKx_idxO;exact rfl;exact rfl;omega)|(apply OKx_idxR;(conv=>lhs;whnf)<;>exact rfl;(with_reducible assumption);exact rfl;omega;intro _ _)|(apply OKx_idxR2;(conv=>lhs;whnf)<;>exact rfl;(with_reducible assumption);exact rfl;omega;intro _ _)|(apply OKx_idxOz;exact rfl;exact rfl;omega;omega)|(apply OKx_idxRz;(conv=>lhs;whnf)<;>exact rfl;(with_reducible assumption);exact rfl;omega;omega;intro _ _)|(apply OKx_fldO;exact rfl;exact rfl)|(apply OKx_fldR;(conv=>lhs;whnf)<;>exact rfl;(with_reducible assumption); decide;intro _ _)|(apply OKx_inc;exact rfl;exact rfl;omega)|(apply OKx_addN;exact rfl;exact rfl;omega)|(apply OKx_add;exact rfl;exact rfl;omega;omega)|(apply OKx_boxA;exact rfl;intro _)|(apply OKx_allocA;intro _)|(apply OKx_ldBA;exact rfl;(first | exact at0|exact at1|exact at2|exact at3|exact at4|exact at5|exact at6|exact at7);exact rfl)|(apply OKx_ldRA;(conv=>lhs;whnf)<;>exact rfl;(with_reducible assumption))|(apply OKx_stB;exact rfl;(conv=>lhs;whnf)<;>exact rfl;exact rfl;exact rfl;(first | exact at0|exact at1|exact at2|exact at3|exact at4|exact at5|exact at6|exact at7);exact rfl;exact rfl;exact rfl)|(apply OKx_ldBo;exact rfl;(first | exact at0|exact at1|exact at2|exact at3|exact at4|exact at5|exact at6|exact at7);omega)|(apply OKx_stBo;exact rfl;exact rfl;(first | exact at0|exact at1|exact at2|exact at3|exact at4|exact at5|exact at6|exact at7);omega;exact rfl)|(apply OKx_slit1;(conv=>lhs;whnf)<;>exact rfl;exact rfl;intro _)|(apply OKx_func;exact rfl;exact rfl))
    refine bodyQ_r2 (by ((conv=>lhs;whnf)<;>exact rfl)) (by ((conv=>lhs;whnf)<;>exact rfl)) ?_
    exact ⟨_, Ent.nil, .inl ⟨hc, rfl, rfl⟩⟩
  obtain ⟨h0, h1, h2⟩ := chkI_zero hc
  obtain ⟨_, hn64, _, hpl, _⟩ := stCheck_len s h0
  have hok := stCheck_okPar s h0
  obtain ⟨j, rfl⟩ := Int.eq_ofNat_of_zero_le h1
  unfold DscR
  rw [Int.toNat_natCast]
  have hset0 := frmC_set (fun _ => false) (dscF s.par j (j + 1)) j true (fun q hq => by
    unfold dscF
    by_cases e : q = j
    · subst e; rw [if_pos rfl, dscL_new, if_neg (by omega), if_pos rfl]
    · rw [if_neg e]
      by_cases e2 : q < j
      · exact dscL_low s.par j q e2 _
      · exact getD_ge _ _ _ (by rw [dscL_len];omega))
  have hfl := fun f => frmC_len f
  refine SatL.of 44 [4, 5] Tryd.func18 (by kernel_rfl) (by kernel_rfl) rfl rfl rfl rfl ?_
  repeat' (first|(apply OK_seq)|(apply thenQ_n)|(apply OK_region)|(apply OKx_gc 53;exact rfl; refine OKx_callV (f := 53) (v := .int .i64 0) rfl rfl rfl (fun w1 hp => by rw [← hc]; exact chk36_sat _ s j w1 (hst.below hp.below)) ?_)|(refine OKx_allocE (frmC fun _ => false) (by rfl) ?_; intro g7)|(apply OKx_gi; refine OKx_idxA Tryd.underlying91 rfl rfl (by omega) ?_; rw [Nat.zero_add])|(apply OKx_gs; refine OKx_stBg 0 rfl rfl rfl rfl rfl (by rw [hfl];omega) hset0 rfl ?_)|(apply OKx_nilK)|(apply OK_block)|(apply blockQ_n)|(apply blockQ_s)|(apply thenQ_e)|(apply blockQ_e;exact rfl)|(apply thenQ_r)|(apply blockQ_r)|(apply OK_condT;exact rfl)|(apply OK_condF;exact rfl)|(apply OK_skip)|(apply OK_exit)|(apply OK_ret)|(apply OKx_move;(conv=>lhs;whnf)<;>exact rfl)|(apply OKx_assign;(conv=>lhs;whnf)<;>exact rfl)|(apply OKx_ldB;exact rfl;(first | exact at0|exact at1|exact at2|exact at3|exact at4|exact at5|exact at6|exact at7);exact rfl)|(apply OKx_ldR;(conv=>lhs;whnf)<;>exact rfl;(with_reducible assumption))|(apply OKx_len;exact rfl)|(apply OKx_lenR;(conv=>lhs;whnf)<;>exact rfl;(with_reducible assumption))|(apply OKx_lenR2;(conv=>lhs;whnf)<;>exact rfl;(with_reducible assumption))|(apply OKx_lenO;(conv=>lhs;whnf)<;>exact rfl;(first | exact at0|exact at1|exact at2|exact at3|exact at4|exact at5|exact at6|exact at7))|(apply OKx_lss;exact rfl;exact rfl;all_goals (intro _; try (exfalso;omega)))|(apply OKx_neq;exact rfl;exact rfl;all_goals (intro _; try (exfalso;omega)))|(apply OKx_idxO;exact rfl;exact rfl;omega)|(apply OKx_idxR;(conv=>lhs;whnf)<;>exact rfl;(with_reducible assumption);exact rfl;omega;intro _ _)|(apply OKx_idxR2;(conv=>lhs;whnf)<;>exact rfl;(with_reducible assumption);exact rfl;omega;intro _ _)|(apply OKx_idxOz;exact rfl;exact rfl;omega;omega)|(apply OKx_idxRz;(conv=>lhs;whnf)<;>exact rfl;(with_reducible assumption);exact rfl;omega;omega;intro _ _)|(apply OKx_fldO;exact rfl;exact rfl)|(apply OKx_fldR;(conv=>lhs;whnf)<;>exact rfl;(with_reducible assumption); decide;intro _ _)|(apply OKx_inc;exact rfl;exact rfl;omega)|(apply OKx_addN;exact rfl;exact rfl;omega)|(apply OKx_add;exact rfl;exact rfl;omega;omega)|(apply OKx_boxA;exact rfl;intro _)|(apply OKx_allocA;intro _)|(apply OKx_ldBA;exact rfl;(first | exact at0|exact at1|exact at2|exact at3|exact at4|exact at5|exact at6|exact at7);exact rfl)|(apply OKx_ldRA;(conv=>lhs;whnf)<;>exact rfl;(with_reducible assumption))|(apply OKx_stB;exact rfl;(conv=>lhs;whnf)<;>exact rfl;exact rfl;exact rfl;(first | exact at0|exact at1|exact at2|exact at3|exact at4|exact at5|exact at6|exact at7);exact rfl;exact rfl;exact rfl)|(apply OKx_ldBo;exact rfl;(first | exact at0|exact at1|exact at2|exact at3|exact at4|exact at5|exact at6|exact at7);omega)|(apply OKx_stBo;exact rfl;exact rfl;(first | exact at0|exact at1|exact at2|exact at3|exact at4|exact at5|exact at6|exact at7);omega;exact rfl)|(apply OKx_slit1;(conv=>lhs;whnf)<;>exact rfl;exact rfl;intro _)|(apply OKx_func;exact rfl;exact rfl))
  rename_i g2 _
  refine OK_loop2 8 9 [8, 9, 20, 21, 22, 23, 24, 25, 26, 27, 28, 29, 30, 31, 32, 33, 34, 35, 36, 37, 38, 39, 40, 41, 42] (fun m u v L => ∃ (k n : Nat) (a : Option Addr) (c : Nat), k + m = s.par.length ∧ j < k ∧ n = (dsnL s.par j k).length ∧ u = .slice a n c ∧ (0 < n → ∃ g, a = some ⟨g, 0, none⟩) ∧ v = .int .i64 (k : Int) ∧
    L = [.row 3 1 (.slice a n c) n (ints (dsnL s.par j k)), .box 91 g7 (frmC (dscF s.par j k)), .box 26 g2 [nv, ev, pv]]) (s.par.length - (j + 1)) _ (Ent.mk fun w1 hp => hp.nil 3 1) ⟨j + 1, 0, none, 0, by omega, by omega, by rw [dsnL_start]; rfl, rfl, fun h => absurd h (by omega), rfl, by rw [dsnL_start]; rfl⟩ ?_
  rintro m u v L G ⟨k, n, a, c, hm, hjk, hn, rfl, ha, rfl, rfl⟩
  by_cases hk : k < s.par.length
  rotate_left
  · obtain rfl : k = s.par.length := by omega
    repeat' (first|(apply OK_seq)|(apply thenQ_n)|(apply OK_region)|(apply OKx_nilK)|(apply OK_block)|(apply blockQ_n)|(apply blockQ_s)|(apply thenQ_e)|(apply blockQ_e;exact rfl)|(apply thenQ_r)|(apply blockQ_r)|(apply OK_condT;exact rfl)|(apply OK_condF;exact rfl)|(apply OK_skip)|(apply OK_exit)|(apply OK_ret)|(apply OKx_move;(conv=>lhs;whnf)<;>exact rfl)|(apply OKx_assign;(conv=>lhs;whnf)<;>exact rfl)|(apply OKx_ldB;exact rfl;(first | exact at0|exact at1|exact at2|exact at3|exact at4|exact at5|exact at6|exact at7);exact rfl)|(apply OKx_ldR;(conv=>lhs;whnf)<;>exact rfl;(with_reducible assumption))|(apply OKx_len;exact rfl)|(apply OKx_lenR;(conv=>lhs;whnf)<;>exact rfl;(with_reducible assumption))|(apply OKx_lenR2;(conv=>lhs;whnf)<;>exact rfl;(with_reducible assumption))|(apply OKx_lenO;(conv=>lhs;whnf)<;>exact rfl;(first | exact at0|exact at1|exact at2|exact at3|exact at4|exact at5|exact at6|exact at7))|(apply OKx_lss;exact rfl;exact rfl;all_goals (intro _; try (exfalso;omega)))|(apply OKx_neq;exact rfl;exact rfl;all_goals (intro _; try (exfalso;omega)))|(apply OKx_idxO;exact rfl;exact rfl;omega)|(apply OKx_idxR;(conv=>lhs;whnf)<;>exact rfl;(with_reducible assumption);exact rfl;omega;intro _ _)|(apply OKx_idxR2;(conv=>lhs;whnf)<;>exact rfl;(with_reducible assumption);exact rfl;omega;intro _ _)|(apply OKx_idxOz;exact rfl;exact rfl;omega;omega)|(apply OKx_idxRz;(conv=>lhs;whnf)<;>exact rfl;(with_reducible assumption);exact rfl;omega;omega;intro _ _)|(apply OKx_fldO;exact rfl;exact rfl)|(apply OKx_fldR;(conv=>lhs;whnf)<;>exact rfl;(with_reducible assumption); decide;intro _ _)|(apply OKx_inc;exact rfl;exact rfl;omega)|(apply OKx_addN;exact rfl;exact rfl;omega)|(apply OKx_add;exact rfl;exact rfl;omega;omega)|(apply OKx_boxA;exact rfl;intro _)|(apply OKx_allocA;intro _)|(apply OKx_ldBA;exact rfl;(first | exact at0|exact at1|exact at2|exact at3|exact at4|exact at5|exact at6|exact at7);exact rfl)|(apply OKx_ldRA;(conv=>lhs;whnf)<;>exact rfl;(with_reducible assumption))|(apply OKx_stB;exact rfl;(conv=>lhs;whnf)<;>exact rfl;exact rfl;exact rfl;(first | exact at0|exact at1|exact at2|exact at3|exact at4|exact at5|exact at6|exact at7);exact rfl;exact rfl;exact rfl)|(apply OKx_ldBo;exact rfl;(first | exact at0|exact at1|exact at2|exact at3|exact at4|exact at5|exact at6|exact at7);omega)|(apply OKx_stBo;exact rfl;exact rfl;(first | exact at0|exact at1|exact at2|exact at3|exact at4|exact at5|exact at6|exact at7);omega;exact rfl)|(apply OKx_slit1;(conv=>lhs;whnf)<;>exact rfl;exact rfl;intro _)|(apply OKx_func;exact rfl;exact rfl))
    refine bodyQ_r2 (by ((conv=>lhs;whnf)<;>exact rfl)) (by ((conv=>lhs;whnf)<;>exact rfl)) ?_
    exact ⟨_, Ent.pick [0] rfl, .inr ⟨hc, a, n, c, hn, rfl, ha, rfl⟩⟩
  have hr : ∀ q, q < (s.par.getD k []).length → 0 ≤ (s.par.getD k []).getD q 0 ∧ (s.par.getD k []).getD q 0 < k := fun q hq => by
    have hg : s.par.getD k [] = s.par[k] := getD_lt _ _ _ hk
    exact hok k hk _ (by rw [getD_lt _ _ _ hq]; exact hg ▸ List.getElem_mem hq)
  have hs := dsnL_step s.par j k
  have hle := dsnL_len s.par j k
  have hnew : dscF s.par j (k + 1) k = (s.par.getD k []).any fun p => dscF s.par j k p.toNat := by
    unfold dscF
    rw [dscL_new, if_neg (by omega), if_neg (by omega)]
  have hset := frmC_set (dscF s.par j k) (dscF s.par j (k + 1)) k (dscF s.par j (k + 1) k) (fun q hq => by
    by_cases e : q = k
    · subst e; rw [if_pos rfl]
    · rw [if_neg e]
      unfold dscF
      by_cases e2 : q < k
      · exact dscL_old s.par j q k e2
      · rw [getD_ge _ _ _ (by rw [dscL_len];omega), getD_ge _ _ _ (by rw [dscL_len];omega)])
  have hxi := (hrow k).sl
  have hget := frmC_at (dscF s.par j (k + 1)) k (by omega)
  generalize hys : dsnL s.par j k = ys at *
  generalize hxs : s.par.getD k [] = xs at *
  generalize hbb : dscF s.par j (k + 1) k = b at *
  have hcall : ∀ (w1 : World) (L : List Res) (f : Nat → Bool), f = dscF s.par j k → Hp w.heap.size w w1 L → L[1]? = some (.box 91 g7 (frmC f)) → SatV Tryd.prog 44 [fv k, .func (.func 54) #[] #[.pointer (some ⟨g7, 0, none⟩)]] w1 (.bool b) := fun w1 L f hf hp hL => by
    rw [hnew, ← anyN_any39 xs, ← hf]
    exact containsF_int_sat _ _ _ (fun q => f (xs.getD q 0).toNat) _ _ w1 (hxi.below hp.below) (fun q hq w2 hb2 => dsc1_sat g7 f _ w2 (fun y hy => by
      have h3 := (hp.boxAt 1 hL).1 y
      rw [frmC_at f y hy] at h3
      exact (hb2.cell (World.block_lt_of_cell? w1 _ h3)).trans h3) (hr q hq).1 (by have := hr q hq;omega))
  repeat' (first|(apply OK_seq)|(apply thenQ_n)|(apply OK_region)|(apply OKx_gc 44;exact rfl; refine OKx_callV (f := 44) rfl rfl rfl (fun w1 hp => hcall w1 _ _ rfl hp rfl) ?_)|(apply OKx_gi; refine OKx_idxA Tryd.underlying91 rfl rfl (by omega) ?_; rw [Nat.zero_add])|(apply OKx_gs; refine OKx_stBg 1 rfl rfl rfl rfl rfl (by rw [hfl];omega) hset rfl ?_)|(apply OKx_gl; refine OKx_ldB 1 rfl rfl hget ?_; cases hb2 : b)|(apply OKx_gb; refine OKx_appI 1 0 rfl rfl rfl rfl (by omega) (by omega) ?_; intro g5 c5)|(apply OKx_nilK)|(apply OK_block)|(apply blockQ_n)|(apply blockQ_s)|(apply thenQ_e)|(apply blockQ_e;exact rfl)|(apply thenQ_r)|(apply blockQ_r)|(apply OK_condT;exact rfl)|(apply OK_condF;exact rfl)|(apply OK_skip)|(apply OK_exit)|(apply OK_ret)|(apply OKx_move;(conv=>lhs;whnf)<;>exact rfl)|(apply OKx_assign;(conv=>lhs;whnf)<;>exact rfl)|(apply OKx_ldB;exact rfl;(first | exact at0|exact at1|exact at2|exact at3|exact at4|exact at5|exact at6|exact at7);exact rfl)|(apply OKx_ldR;(conv=>lhs;whnf)<;>exact rfl;(with_reducible assumption))|(apply OKx_len;exact rfl)|(apply OKx_lenR;(conv=>lhs;whnf)<;>exact rfl;(with_reducible assumption))|(apply OKx_lenR2;(conv=>lhs;whnf)<;>exact rfl;(with_reducible assumption))|(apply OKx_lenO;(conv=>lhs;whnf)<;>exact rfl;(first | exact at0|exact at1|exact at2|exact at3|exact at4|exact at5|exact at6|exact at7))|(apply OKx_lss;exact rfl;exact rfl;all_goals (intro _; try (exfalso;omega)))|(apply OKx_neq;exact rfl;exact rfl;all_goals (intro _; try (exfalso;omega)))|(apply OKx_idxO;exact rfl;exact rfl;omega)|(apply OKx_idxR;(conv=>lhs;whnf)<;>exact rfl;(with_reducible assumption);exact rfl;omega;intro _ _)|(apply OKx_idxR2;(conv=>lhs;whnf)<;>exact rfl;(with_reducible assumption);exact rfl;omega;intro _ _)|(apply OKx_idxOz;exact rfl;exact rfl;omega;omega)|(apply OKx_idxRz;(conv=>lhs;whnf)<;>exact rfl;(with_reducible assumption);exact rfl;omega;omega;intro _ _)|(apply OKx_fldO;exact rfl;exact rfl)|(apply OKx_fldR;(conv=>lhs;whnf)<;>exact rfl;(with_reducible assumption); decide;intro _ _)|(apply OKx_inc;exact rfl;exact rfl;omega)|(apply OKx_addN;exact rfl;exact rfl;omega)|(apply OKx_add;exact rfl;exact rfl;omega;omega)|(apply OKx_boxA;exact rfl;intro _)|(apply OKx_allocA;intro _)|(apply OKx_ldBA;exact rfl;(first | exact at0|exact at1|exact at2|exact at3|exact at4|exact at5|exact at6|exact at7);exact rfl)|(apply OKx_ldRA;(conv=>lhs;whnf)<;>exact rfl;(with_reducible assumption))|(apply OKx_stB;exact rfl;(conv=>lhs;whnf)<;>exact rfl;exact rfl;exact rfl;(first | exact at0|exact at1|exact at2|exact at3|exact at4|exact at5|exact at6|exact at7);exact rfl;exact rfl;exact rfl)|(apply OKx_ldBo;exact rfl;(first | exact at0|exact at1|exact at2|exact at3|exact at4|exact at5|exact at6|exact at7);omega)|(apply OKx_stBo;exact rfl;exact rfl;(first | exact at0|exact at1|exact at2|exact at3|exact at4|exact at5|exact at6|exact at7);omega;exact rfl)|(apply OKx_slit1;(conv=>lhs;whnf)<;>exact rfl;exact rfl;intro _)|(apply OKx_func;exact rfl;exact rfl))
  · rw [if_neg (by rw [hb2]; simp), List.append_nil] at hs
    refine ⟨by (repeat' (first | refine agree_upd rfl ?_ | exact agree_over | exact agree_refl _ _ | refine agree_over2 rfl ?_)), m - 1, _, by omega, Ent.refl _ _, ?_⟩
    exact ⟨k + 1, n, a, c, by omega, by omega, by rw [hs]; exact hn, rfl, ha, rfl, by rw [hs]; rfl⟩
  · rw [if_pos ⟨hjk, hb2⟩] at hs
    refine ⟨by (repeat' (first | refine agree_upd rfl ?_ | exact agree_over | exact agree_refl _ _ | refine agree_over2 rfl ?_)), m - 1, _, by omega, Ent.pick [1, 2, 3] rfl, ?_⟩
    exact ⟨k + 1, n + 1, _, c5, by omega, by omega, by rw [hs, List.length_append, hn]; rfl, rfl, fun _ => ⟨_, rfl⟩, rfl, by rw [hs]; rfl⟩
end Go.Proofs.YtpfemholpigdeaaDoor
