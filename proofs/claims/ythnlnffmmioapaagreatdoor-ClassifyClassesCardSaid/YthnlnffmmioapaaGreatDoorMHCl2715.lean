/-
  Part 15 of the proof: Rf, Ed27. No statement of the seat is proved here.
-/
import Derived.Test.YthnlnffmmioapaaGreatDoorMHCl2714
import Derived.RangeFuncRecord
import Derived.RangeFuncLeaves
import Derived.RangeFuncCalls
import Derived.Sort.LoopGhostIn
namespace Go.Proofs.YthnlnffmmioapaaGreatDoor
open Go.RowKit
def fen : Option Nat → Fence
  | none => Fence.wide
  | some l => Fence.wide.inRound l
section
variable {P : Program} {ops : Array Oper}
theorem fen_fn (ro : Option Nat) (f : FuncId) : (fen ro).fn f := by cases ro <;> trivial
theorem fen_depth (ro : Option Nat) : (fen ro).depth = none := by cases ro <;> rfl
theorem fen_calls {ro : Option Nat} {f : FuncId} {args : Array Value} {w : World} {R : Ending → World → Prop} (h : Calls P f args w R) : CallsIn (fen ro) 0 P f args w R := by
  cases ro with
  | none => exact callsIn_wide.2 h
  | some l => exact CallsIn.inRound l (callsIn_wide.2 h)
theorem fen_rows {ro : Option Nat} {row : String} {args : Array Value} {w : World} {R : Value → World → Prop} (h : Rows P row args w R) : RowsIn (fen ro) 0 P row args w R := by
  have h1 : RowsIn Fence.wide 0 P row args w R := fun c cs _ => let ⟨v, w', r, s⟩ := h c cs; ⟨v, w', r, stepsIn_wide.2 s⟩
  cases ro with
  | none => exact h1
  | some l => exact fun c cs hr => h1 c cs (room_wide _)
def noDef (o : Oper) : Bool := match o.op with
  | .defer _ => false
  | _ => true
theorem noDef_ne {o : Oper} (h : noDef o = true) : ∀ c, o.op ≠ .defer c := by
  intro c e
  unfold noDef at h
  rw [e] at h
  cases h
theorem oper_in {ro : Option Nat} {o : Oper} {a : Act} {w : World} {K : Act → World → Prop} {Q Q' : Exit → Act → World → Prop} (hn : noDef o = true) (hp : ∀ c a w, ¬ Q (.panic c) a w) (ho : ¬ LetsOut Q) (h : o.wp P a w K Q) : o.wpIn (fen ro) 0 P a w K Q' := by
  refine ⟨fun f _ => fen_fn ro f, ?_⟩
  rw [Oper.semAt_eq _ _ _ (noDef_ne hn)]
  unfold Oper.wp at h
  have hd : (fen ro).depth.isSome = true → 1 ≤ 0 := by rw [fen_depth]; intro h; cases h
  generalize (execOp a.eval o).run P w = r at *
  cases r with
  | ok nx w' =>
    cases nx with
    | value v => exact h
    | skip => exact h
    | defer d => exact h
    | enter f args =>
      refine ⟨hd, fen_calls (Calls.mono h fun e w'' h => ?_)⟩
      cases e with
      | returned v => exact h
      | panicked c => exact absurd h (hp _ _ _)
      | outgrown => exact absurd h ho
    | row r args => exact ⟨hd, fen_rows h⟩
    | _ => exact h.elim
  | halt x w' =>
    cases x with
    | panic v => exact absurd h (hp _ _ _)
    | _ => exact h.elim
theorem list_in {ro : Option Nat} {C : World → Prop} {Q Q' : Exit → Act → World → Prop} (hp : ∀ c a w, ¬ Q (.panic c) a w) (ho : ¬ LetsOut Q) (rest : List Oper) (hq : ∀ a w, Q .normal a w → wpListIn (fen ro) 0 P ops Q' rest a w) :
    ∀ (l : List Oper) (a : Act) (w : World), l.all noDef = true → wpListC P ops C Q l a w → wpListIn (fen ro) 0 P ops Q' (l ++ rest) a w
  | [], a, w, _, h => hq a w h.2
  | o :: l, a, w, hn, h => by
    obtain ⟨_, h⟩ := h
    simp only [List.all_cons, Bool.and_eq_true] at hn
    rw [List.cons_append]
    unfold wpListIn
    split
    · rename_i hw
      rw [if_pos hw] at h
      exact oper_in hn.1 hp ho (Oper.wp_mono (fun a w h => list_in hp ho rest hq l a w hn.2 h) h)
    · rename_i hw
      rw [if_neg hw] at h
      exact ⟨fun f _ => fen_fn ro f, list_in hp ho rest hq l _ w hn.2 h⟩
end
section
variable (P : Program) (n : Nat) (w0 : World) (l : Nat)
def OKr (Q : Exit → Fm → List Res → Prop) (c : Code) (F : Fm) (L : List Res) : Prop :=
  ∀ w a, Fr n a F → Hp w0.heap.size w0 w L → c.wpIn (fen (some l)) 0 P (lift n w0 Q) a w
end
section
variable {P : Program} {n : Nat} {w0 : World} {ro : Nat} {Q : Exit → Fm → List Res → Prop} {K : Fm → List Res → Prop} {F : Fm} {L : List Res}
theorem OKr_block {id : Nat} {c : Code} (h : OKr P n w0 ro (blockQ id Q) c F L) : OKr P n w0 ro Q (.block id c) F L := by
  intro w ac hf hp
  refine wpIn_block (wpIn_mono (h w ac hf hp) ?_)
  rintro e a' w' ⟨F', L', h1, h2, h3⟩
  cases e with
  | exit id' =>
    simp only [blockQ] at h3
    simp only [Exit.inBlock]
    by_cases he : id' = id
    · subst he
      rw [if_pos rfl]
      simp only [Nat.beq_refl, cond_true] at h3
      exact ⟨F', L', h1, h2, h3⟩
    · rw [if_neg he]
      have : Nat.beq id' id = false := beq_ne he
      rw [this] at h3
      exact ⟨F', L', h1, h2, h3⟩
  | _ =>
    unfold blockQ at h3
    exact ⟨F', L', h1, h2, h3⟩
theorem liftN_noPanic : ∀ c a w, ¬ liftN n w0 K (.panic c) a w := fun c a w h => by cases h.1
theorem liftN_noOut : ¬ LetsOut (liftN n w0 K) := by rintro ⟨a, w, h, _⟩; cases h
theorem OKr_region {id : Nat} {l : List Oper} (hn : l.all noDef = true) (h : OKx P n w0 (.seq []) l.toArray (Q .normal) l F L) : OKr P n w0 ro Q (.region id l.toArray false) F L := by
  intro w a hf hp
  have h1 := list_in (P := P) (ops := l.toArray) (ro := some ro) (Q := liftN n w0 (Q .normal)) (Q' := lift n w0 Q) liftN_noPanic liftN_noOut [] (fun a w h => (by obtain ⟨_, F', L', h1, h2, h3⟩ := h; exact ⟨F', L', h1, h2, h3⟩)) l a w hn (h.use w a hf hp)
  rw [List.append_nil] at h1
  exact wpIn_region_lit h1
end
section
variable {P : Program} {n : Nat} {w0 : World} {ro : Nat} {Q : Exit → Fm → List Res → Prop} {F : Fm} {L : List Res} {c : Code}
theorem OKr.use (h : OKr P n w0 ro Q c F L) : ∀ w a, Fr n a F → Hp w0.heap.size w0 w L → c.wpIn (fen (some ro)) 0 P (lift n w0 Q) a w := h
end
attribute [irreducible] OKr
def SatY (P : Program) (l : Nat) (args : List Value) (w0 : World) (L : List Res) (R : Value → List Res → Prop) : Prop :=
  ∀ w, Hp w0.heap.size w0 w L → ∃ fn tmps assign body, (Instr.yield l args.toArray).run P w = .ok (.round l fn tmps assign body) w ∧
    RoundIn Fence.wide 0 P l fn tmps assign body w fun e w' => ∃ v L', e = .returned v ∧ Hp w0.heap.size w0 w' L' ∧ R v L'
section
variable {P : Program} {n : Nat} {w0 : World} {Q : Exit → Fm → List Res → Prop} {F : Fm} {L : List Res}
theorem OK_regionY (k : Nat) {id : Nat} {l : List Oper} (l1 l2 : List Oper) {d : Option Nat} {fo : Operand} {args : Array Operand} {tt : Array TypeId} {ty : TypeId} {pos : String} {aft : Array Edge} (hl : l = l1 ++ ⟨d, .call { callee := .value fo, args := args, argTypes := tt }, ty, pos, aft, none⟩ :: l2) (hn : (l1.all noDef && l2.all noDef) = true)
    (h : OKx P n w0 (.seq []) l.toArray (fun F1 L1 => ∃ (y : Nat) (av : List Value) (R : Value → List Res → Prop), rv n F1 fo = .func (.yield y) #[] #[] ∧ args.toList.map (rv n F1) = av ∧ SatY P y av w0 L1 R ∧
      ∀ v L', R v L' → OKx P n w0 (.seq []) l.toArray (Q .normal) l2 (updo F1 d v) L') l1 F L) : OK P n w0 Q (.region id l.toArray false) F L := by
  rw [Bool.and_eq_true] at hn
  refine OK.mk' fun w a hf hp => (wpIn_wide (n := 0)).1 (wpIn_region_lit ?_)
  have key := list_in (P := P) (ops := l.toArray) (ro := none) (C := fun w => Hp w0.heap.size w0 w []) (Q := liftN n w0 _) (Q' := lift n w0 Q) liftN_noPanic liftN_noOut (⟨d, .call { callee := .value fo, args := args, argTypes := tt }, ty, pos, aft, none⟩ :: l2) ?_ l1 a w hn.1 (h.use w a hf hp)
  · rw [← hl] at key; exact key
  · rintro a1 w1 ⟨_, F1, L1, hf1, hp1, y, av, R, h1, h2, hy, h3⟩
    obtain ⟨fn, tmps, assign, body, hrun, hround⟩ := hy w1 hp1
    unfold wpListIn
    rw [if_pos (by rfl)]
    refine ⟨fun f _ => trivial, ?_⟩
    have hexec : ((⟨d, .call { callee := .value fo, args := args, argTypes := tt }, ty, pos, aft, none⟩ : Oper).semAt (fen none).round a1.eval).run P w1 = .ok (.round y fn tmps assign body) w1 := by
      have e : Array.map (rv n F1) args = av.toArray := by rw [← Array.toList_inj, ← h2]; simp
      have hr : (fen none).round = none := rfl
      rw [hr, Oper.semAt_none, hf1.eval]
      simp only [execOp, resolve, h1, Deferred.ofValue, Sem.run_bind, Sem.run_pure, Result.andThen, invoke, Array.empty_append, Array.append_empty, e, hrun]
    rw [hexec]
    refine ⟨fun h => (by cases h), hround.mono ?_⟩
    rintro e w2 ⟨v, L', rfl, hp2, hR⟩
    have h4 := list_in (P := P) (ops := l.toArray) (ro := none) (Q := liftN n w0 (Q .normal)) (Q' := lift n w0 Q) liftN_noPanic liftN_noOut [] (fun a w h => (by obtain ⟨_, F', L', h1, h2, h3⟩ := h; exact ⟨F', L', h1, h2, h3⟩)) l2 _ w2 hn.2 ((h3 v L' hR).use w2 _ (hf1.put d v) hp2)
    rw [List.append_nil] at h4
    exact h4
end
end Go.Proofs.YthnlnffmmioapaaGreatDoor
namespace Go.Proofs.YthnlnffmmioapaaGreatDoor
open Go.RowKit
section
variable {P : Program} {n : Nat} {w0 : World} {K : Fm → List Res → Prop} {F : Fm} {L : List Res} {m : Md} {Lw : List Res} {ops : Array Oper} {rest : List Oper} {d : Option Nat} {ty : TypeId} {pos : String} {aft : Array Edge}
theorem min2_run {k : IntKind} {a b : Int} {w : World} : (Builtin.min2 (.int k a) (.int k b)).run P w = .ok (.int k (min a b)) w := by
  have e : (if b < a then b else a) = min a b := by split <;> omega
  simp [Builtin.min2, e]
theorem OKx_min3 {x1 x2 x3 : Operand} {tt : Array TypeId} {k : IntKind} {a b c r : Int} (h1 : rv n F x1 = .int k a) (h2 : rv n F x2 = .int k b) (h3 : rv n F x3 = .int k c) (hr : min (min a b) c = r)
    (kk : OKx P n w0 m ops K rest (updo F d (.int k r)) L) : OKx P n w0 m ops K (⟨d, .call { callee := .builtin .min, args := #[x1, x2, x3], argTypes := tt }, ty, pos, aft, none⟩ :: rest) F L := by
  subst hr
  refine OKx_still (fun w _ _ _ _ _ => ?_) kk
  simp [execOp, resolve, invoke, builtin, h1, h2, h3, Builtin.min_, min2_run, Sem.run_bind, Result.andThen]
end
def levR (q : Nat → Nat → Bool) (M i : Nat) : List Int := (List.range (M + 1)).map fun k => ((levE q i k : Nat) : Int)
theorem levR_len (q : Nat → Nat → Bool) (M i : Nat) : (levR q M i).length = M + 1 := by simp [levR]
theorem levR_at (q : Nat → Nat → Bool) (M i k : Nat) (h : k < M + 1) : (levR q M i).getD k 0 = ((levE q i k : Nat) : Int) := by simp [levR, h]
theorem levR_ext (q : Nat → Nat → Bool) (M i : Nat) (u : List Int) (hl : u.length = M + 1) (h : ∀ k, k < M + 1 → u.getD k 0 = ((levE q i k : Nat) : Int)) : u = levR q M i := by
  refine List.ext_getElem (by rw [hl, levR_len]) fun k h1 h2 => ?_
  have := h k (by omega)
  rw [← levR_at q M i k (by omega), getD_lt _ _ _ h1, getD_lt _ _ _ h2] at this
  exact this
theorem setI (l : List Int) (i : Nat) (b : Int) (p : Nat) (hi : i < l.length) : (l.set i b).getD p 0 = if i = p then b else l.getD p 0 := by
  rw [List.getD_eq_getElem?_getD, List.getD_eq_getElem?_getD, List.getElem?_set]
  by_cases h : i = p
  · subst h
    rw [if_pos rfl, if_pos rfl, if_pos hi]
    rfl
  · rw [if_neg h, if_neg h]
def MidD (M : Nat) (v1 v2 : Value) (L1 : List Res) : Prop := ∃ g1 g2, v1 = .slice (some ⟨g1, 0, none⟩) (M + 1) (M + 1) ∧ v2 = .slice (some ⟨g2, 0, none⟩) (M + 1) (M + 1) ∧
  L1 = [.row 3 1 (.slice (some ⟨g1, 0, none⟩) (M + 1) (M + 1)) (M + 1) (List.replicate (M + 1) (.int .i64 0)), .row 3 1 (.slice (some ⟨g2, 0, none⟩) (M + 1) (M + 1)) (M + 1) (List.replicate (M + 1) (.int .i64 0))]
theorem ints_rep0 (n : Nat) : List.replicate n (Value.int .i64 0) = ints (List.replicate n 0) := by simp [ints]
abbrev dRow (g M : Nat) (u : List Int) : Res := .row 3 1 (.slice (some ⟨g, 0, none⟩) (M + 1) (M + 1)) (M + 1) (ints u)
abbrev dSl (g M : Nat) : Value := .slice (some ⟨g, 0, none⟩) (M + 1) (M + 1)
set_option maxRecDepth 100000 in
set_option maxHeartbeats 4000000 in
theorem distances_sat (N M : Nat) (f : FuncId) (cs : Array Value) (q : Nat → Nat → Bool) (w : World) (hN : N ≤ 1000000) (hM : M ≤ 1000000) (hf : ∀ i k, i < N → k < M → ∀ w1, Below w.heap.size w w1 → SatV Tryz.prog f (.int .i64 (i : Int) :: .int .i64 (k : Int) :: cs.toList) w1 (.bool (q i k))) :
    SatV Tryz.prog 207 [.int .i64 (N : Int), .int .i64 (M : Int), .func (.func f) #[] cs] w (.int .i64 ((levE q N M : Nat) : Int)) := by
  refine SatL.of 75 [6] Tryz.func207 (by kernel_rfl) (by kernel_rfl) rfl rfl rfl rfl ?_
  repeat' (first|(apply OK_seq)|(apply thenQ_n)|(apply OK_region)|(refine OKx_make (N := M + 1) rfl rfl rfl (by omega) (by omega) ?_; intro gm)|(refine OK_rid 1 ?_; refine OK_pureAny2 8 4 [0, 1, 3, 4] [] [7, 8, 13, 14, 15, 16, 17, 18] 7 8 (MidD M) (id := 1) (by kernel_rfl) (by kernel_rfl) (by kernel_rfl) (by kernel_rfl) (by kernel_rfl) (by kernel_rfl) (by first | exact Ent.refl _ _ | exact Ent.nil) (by ((try simp only [pickO, nthO, List.cons_append, List.nil_append]) <;> exact rfl)) ?_ thenQ_entN ?_)|(apply OKx_nilK)|(apply OKx_move;(conv=>lhs;whnf)<;>exact rfl)|(apply OKx_assign;(conv=>lhs;whnf)<;>exact rfl)|(apply OKx_inc;exact rfl;exact rfl;omega)|(refine OKc_step2 (S := [0, 1, 3, 4]) (i1 := 2) (S1 := [0, 1, 2, 3, 4]) (i2 := 5) (S2 := [0, 1, 3, 4, 5]) (by first | exact Ent.refl _ _ | exact Ent.nil | exact Ent.pick [0] rfl | exact Ent.pick [1] rfl | exact Ent.pick [2] rfl | exact Ent.pick [3] rfl) (by kernel_rfl) (by kernel_rfl) (by kernel_rfl) rfl rfl ?_ ?_)|(refine OKc_step1 (S := [0, 1, 3, 4, 5]) (i1 := 2) (S1 := [0, 1, 2, 3, 4, 5]) (by first | exact Ent.refl _ _ | exact Ent.nil | exact Ent.pick [0] rfl | exact Ent.pick [1] rfl | exact Ent.pick [2] rfl | exact Ent.pick [3] rfl) (by kernel_rfl) (by kernel_rfl) rfl ?_)|(refine OKc_pure (S := [0, 1, 2, 3, 4, 5]) (i := 6) (S1 := [0, 1, 2, 3, 4, 5, 6]) (by kernel_rfl) (by kernel_rfl) rfl ?_)|(refine OKc_pure (S := [0, 1, 2, 3, 4, 5, 6]) (i := 7) (S1 := [0, 1, 2, 3, 4, 5, 6, 7]) (by kernel_rfl) (by kernel_rfl) rfl ?_)|(refine OKc_end (S := [0, 1, 2, 3, 4, 5, 6, 7]) (by kernel_rfl) (by first | exact Ent.refl _ _ | exact Ent.nil | exact Ent.pick [0] rfl | exact Ent.pick [1] rfl | exact Ent.pick [2] rfl | exact Ent.pick [3] rfl) ?_)|(refine OKc_pure (S := [0, 1, 2, 3, 4]) (i := 6) (S1 := [0, 1, 2, 3, 4, 6]) (by kernel_rfl) (by kernel_rfl) rfl ?_)|(refine OKc_step1 (S := [0, 1, 2, 3, 4, 6]) (i1 := 5) (S1 := [0, 1, 2, 3, 4, 5, 6]) (by first | exact Ent.refl _ _ | exact Ent.nil | exact Ent.pick [0] rfl | exact Ent.pick [1] rfl | exact Ent.pick [2] rfl | exact Ent.pick [3] rfl) (by kernel_rfl) (by kernel_rfl) rfl ?_))
  rotate_left
  all_goals first
    | exact ⟨by (repeat' (first | refine agree_upd rfl ?_ | exact agree_over | exact agree_refl _ _ | refine agree_over2 rfl ?_)), _, Ent.pick [0, 1] rfl, _, _, rfl, rfl, rfl⟩
    | exact ⟨by (repeat' (first | refine agree_upd rfl ?_ | exact agree_over | exact agree_refl _ _ | refine agree_over2 rfl ?_)), _, Ent.pick [1, 0] rfl, _, _, rfl, rfl, rfl⟩
    | skip
  rintro v1 v2 L1 G ⟨g1, g2, rfl, rfl, rfl⟩
  rw [ints_rep0]
  repeat' (first|(apply OK_seq)|(apply thenQ_n)|(apply OK_region)|(apply OKx_nilK)|(apply OK_block)|(apply OKx_move;(conv=>lhs;whnf)<;>exact rfl)|(apply OKx_len;exact rfl))
  refine OK_loop1 21 [9, 21, 22, 23, 24, 25, 26, 27, 28] (fun m v L => ∃ (k : Nat) (u : List Int), k + m = M + 1 ∧ v = .int .i64 (k : Int) ∧ u.length = M + 1 ∧ (∀ j, j < k → u.getD j 0 = (j : Int)) ∧ L = [dRow g1 M u, dRow g2 M (List.replicate (M + 1) 0)]) (M + 1) _ (Ent.refl _ _) ⟨0, _, by omega, rfl, List.length_replicate, fun j hj => absurd hj (by omega), rfl⟩ ?_
  rintro m v L G1 ⟨k, u, hm, rfl, hul, hu, rfl⟩
  by_cases hk : k < M + 1
  · repeat' (first|(apply OK_seq)|(apply thenQ_n)|(apply OK_region)|(apply OKx_nilK)|(apply OK_block)|(apply blockQ_n)|(apply OK_condT;exact rfl)|(apply OK_skip)|(apply OKx_move;(conv=>lhs;whnf)<;>exact rfl)|(apply OKx_assign;(conv=>lhs;whnf)<;>exact rfl)|(apply OKx_lss;exact rfl;exact rfl;all_goals (intro _; try (exfalso;omega)))|(apply OKx_idxO;exact rfl;exact rfl;omega)|(apply OKx_inc;exact rfl;exact rfl;omega)|(apply OKx_stI;exact rfl;exact rfl; (apply atP;constructor);omega;exact rfl))
    refine ⟨by (repeat' (first | refine agree_upd rfl ?_ | exact agree_over | exact agree_refl _ _ | refine agree_over2 rfl ?_)), m - 1, _, by omega, Ent.refl _ _, ?_⟩
    refine ⟨k + 1, u.set k (k : Int), by omega, rfl, by rw [List.length_set]; exact hul, fun j hj => ?_, rfl⟩
    rw [setI _ _ _ _ (by omega)]
    by_cases e : k = j
    · rw [if_pos e, e]
    · rw [if_neg e]; exact hu j (by omega)
  obtain rfl : k = M + 1 := by omega
  obtain rfl : u = levR q M 0 := levR_ext q M 0 u hul (fun j hj => by rw [hu j hj, levE])
  repeat' (first|(apply OK_seq)|(apply thenQ_n)|(apply OK_region)|(apply OKx_nilK)|(apply OK_block)|(apply blockQ_s)|(apply thenQ_e)|(apply OK_condF;exact rfl)|(apply OK_exit)|(apply OKx_move;(conv=>lhs;whnf)<;>exact rfl)|(apply OKx_lss;exact rfl;exact rfl;all_goals (intro _; try (exfalso;omega))))
  refine OK_loop3 7 8 30 [7, 8, 10, 11, 12, 30, 31, 32, 33, 34, 35, 36, 37, 38, 39, 40, 41, 42, 43, 44, 45, 46, 47, 48, 49, 50, 51, 52, 53, 54, 55, 56, 57, 58, 59, 60, 61, 62, 63, 64, 65, 66, 67, 68, 69, 70] (fun m v7 v8 v30 L => ∃ (i gb gn : Nat) (u : List Int), i + m = N ∧ v7 = dSl gb M ∧ v8 = dSl gn M ∧ v30 = .int .i64 (i : Int) ∧ u.length = M + 1 ∧ L = [dRow gb M (levR q M i), dRow gn M u]) N _ (Ent.refl _ _) ⟨0, g1, g2, _, by omega, rfl, rfl, rfl, List.length_replicate, rfl⟩ ?_
  rintro m v7 v8 v30 L G2 ⟨i, gb, gn, u, hm, rfl, rfl, rfl, hul2, rfl⟩
  have hRl := levR_len q M i
  by_cases hi : i < N
  · have hz : ((i : Int) + 1) = ((levE q (i + 1) 0 : Nat) : Int) := by rw [levE];omega
    repeat' (first|(apply OK_seq)|(apply thenQ_n)|(apply OK_region)|(apply OKx_nilK)|(apply OK_block)|(apply OK_condT;exact rfl)|(apply OK_skip)|(apply OKx_move;(conv=>lhs;whnf)<;>exact rfl)|(apply OKx_assign;(conv=>lhs;whnf)<;>exact rfl)|(apply OKx_lss;exact rfl;exact rfl;all_goals (intro _; try (exfalso;omega)))|(apply OKx_idxOz;exact rfl;exact rfl;omega;omega)|(apply OKx_inc;exact rfl;exact rfl;omega)|(apply OKx_stI;exact rfl;exact rfl; (apply atP;constructor);omega;exact rfl))
    refine OK_loop1 38 [11, 12, 38, 39, 40, 41, 42, 43, 44, 45, 46, 47, 48, 49, 50, 51, 52, 53, 54, 55, 56, 57, 58, 59, 60, 61, 62, 63, 64, 65, 66, 67] (fun m v L => ∃ (k : Nat) (u : List Int), k + m = M ∧ v = .int .i64 (k : Int) ∧ u.length = M + 1 ∧ (∀ j, j ≤ k → u.getD j 0 = ((levE q (i + 1) j : Nat) : Int)) ∧ L = [dRow gb M (levR q M i), dRow gn M u]) M _ (Ent.refl _ _) ⟨0, _, by omega, rfl, by rw [List.length_set]; exact hul2, fun j hj => ?_, rfl⟩ ?_
    · obtain rfl : j = 0 := by omega
      show (u.set 0 ((i + 1 : Nat) : Int)).getD 0 0 = _
      rw [setI _ _ _ _ (show 0 < u.length by omega), if_pos rfl, ← hz]
      omega
    rintro m3 v L G3 ⟨k, u3, hm3, rfl, hul3, hu3, rfl⟩
    by_cases hk : k < M
    · have e1 := levR_at q M i k (by omega)
      have e2 := levR_at q M i (k + 1) (by omega)
      have e3 := hu3 k (Nat.le_refl _)
      have b1 := levE_le q i k
      have b2 := levE_le q i (k + 1)
      have b3 := levE_le q (i + 1) k
      have hstep : levE q (i + 1) (k + 1) = min (min (levE q i k + if q i k = true then 0 else 1) (levE q i (k + 1) + 1)) (levE q (i + 1) k + 1) := by rw [levE]
      have hq := fun w1 (hb : Below w.heap.size w w1) => hf i k hi hk w1 hb
      cases hqk : q i k <;> rw [hqk] at hq hstep
      · have hmin : min (min ((levR q M i).getD k 0 + 1) ((levR q M i).getD (k + 1) 0 + 1)) (u3.getD k 0 + 1) = ((levE q (i + 1) (k + 1) : Nat) : Int) := by
          rw [e1, e2, e3, hstep, if_neg (by decide)]
          omega
        repeat' (first|(apply OK_seq)|(apply thenQ_n)|(apply OK_region)|(refine OKx_callV (f := f) rfl rfl rfl (fun w1 hp => hq w1 hp.below) ?_)|(apply OKx_gb; refine OKx_min3 rfl rfl rfl hmin ?_)|(refine OK_rid 17 ?_; refine OK_mix [] [0, 1, 2, 3, 4, 5, 6, 7, 8, 9, 10, 11, 12, 13, 14, 15, 16, 17, 18, 19, 20, 21] [] [22] [] (id := 17) (by kernel_rfl) (by kernel_rfl) rfl (Ent.nil) (by ((try simp only [pickO]) <;> exact rfl)) (by ((try simp only [pickO, nthO, List.cons_append, List.nil_append]) <;> exact rfl)) (by ((try simp only [pickO]) <;> exact rfl)) (by ((try simp only [pickO, nthO, List.cons_append, List.nil_append]) <;> exact rfl)) ?_)|(apply OKx_nilK)|(apply OK_block)|(apply blockQ_n)|(apply OK_condT;exact rfl)|(apply OK_condF;exact rfl)|(apply OK_skip)|(apply OKx_move;(conv=>lhs;whnf)<;>exact rfl)|(apply OKx_assign;(conv=>lhs;whnf)<;>exact rfl)|(apply OKx_ldI;exact rfl; (apply atP;constructor);omega)|(apply OKx_lss;exact rfl;exact rfl;all_goals (intro _; try (exfalso;omega)))|(apply OKx_idxO;exact rfl;exact rfl;omega)|(apply OKx_inc;exact rfl;exact rfl;omega)|(apply OKx_add;exact rfl;exact rfl;omega;omega)|(apply OKx_stI;exact rfl;exact rfl; (apply atP;constructor);omega;exact rfl))
        refine ⟨by (repeat' (first | refine agree_upd rfl ?_ | exact agree_over | exact agree_refl _ _ | refine agree_over2 rfl ?_)), m3 - 1, _, by omega, Ent.refl _ _, ?_⟩
        refine ⟨k + 1, u3.set (k + 1) _, by omega, rfl, by rw [List.length_set]; exact hul3, fun j hj => ?_, rfl⟩
        rw [setI _ _ _ _ (by omega)]
        by_cases e : k + 1 = j
        · rw [if_pos e, e]
        · rw [if_neg e]; exact hu3 j (by omega)
      · have hmin : min (min ((levR q M i).getD k 0 + 0) ((levR q M i).getD (k + 1) 0 + 1)) (u3.getD k 0 + 1) = ((levE q (i + 1) (k + 1) : Nat) : Int) := by
          rw [e1, e2, e3, hstep, if_pos rfl]
          omega
        repeat' (first|(apply OK_seq)|(apply thenQ_n)|(apply OK_region)|(refine OKx_callV (f := f) rfl rfl rfl (fun w1 hp => hq w1 hp.below) ?_)|(apply OKx_gb; refine OKx_min3 rfl rfl rfl hmin ?_)|(refine OK_rid 17 ?_; refine OK_mix [] [0, 1, 2, 3, 4, 5, 6, 7, 8, 9, 10, 11, 12, 13, 14, 15, 16, 17, 18, 19, 20, 21] [] [22] [] (id := 17) (by kernel_rfl) (by kernel_rfl) rfl (Ent.nil) (by ((try simp only [pickO]) <;> exact rfl)) (by ((try simp only [pickO, nthO, List.cons_append, List.nil_append]) <;> exact rfl)) (by ((try simp only [pickO]) <;> exact rfl)) (by ((try simp only [pickO, nthO, List.cons_append, List.nil_append]) <;> exact rfl)) ?_)|(apply OKx_nilK)|(apply OK_block)|(apply blockQ_n)|(apply OK_condT;exact rfl)|(apply OK_skip)|(apply OKx_move;(conv=>lhs;whnf)<;>exact rfl)|(apply OKx_assign;(conv=>lhs;whnf)<;>exact rfl)|(apply OKx_ldI;exact rfl; (apply atP;constructor);omega)|(apply OKx_lss;exact rfl;exact rfl;all_goals (intro _; try (exfalso;omega)))|(apply OKx_idxO;exact rfl;exact rfl;omega)|(apply OKx_inc;exact rfl;exact rfl;omega)|(apply OKx_add;exact rfl;exact rfl;omega;omega)|(apply OKx_stI;exact rfl;exact rfl; (apply atP;constructor);omega;exact rfl))
        refine ⟨by (repeat' (first | refine agree_upd rfl ?_ | exact agree_over | exact agree_refl _ _ | refine agree_over2 rfl ?_)), m3 - 1, _, by omega, Ent.refl _ _, ?_⟩
        refine ⟨k + 1, u3.set (k + 1) _, by omega, rfl, by rw [List.length_set]; exact hul3, fun j hj => ?_, rfl⟩
        rw [setI _ _ _ _ (by omega)]
        by_cases e : k + 1 = j
        · rw [if_pos e, e]
        · rw [if_neg e]; exact hu3 j (by omega)
    · obtain rfl : k = M := by omega
      obtain rfl : u3 = levR q k (i + 1) := levR_ext q k (i + 1) u3 hul3 (fun j hj => hu3 j (by omega))
      repeat' (first|(apply OK_seq)|(apply thenQ_n)|(apply OK_region)|(apply OKx_nilK)|(apply blockQ_n)|(apply blockQ_s)|(apply thenQ_e)|(apply OK_condF;exact rfl)|(apply OK_exit)|(apply OKx_move;(conv=>lhs;whnf)<;>exact rfl)|(apply OKx_assign;(conv=>lhs;whnf)<;>exact rfl)|(apply OKx_lss;exact rfl;exact rfl;all_goals (intro _; try (exfalso;omega)))|(apply OKx_inc;exact rfl;exact rfl;omega))
      refine ⟨by (repeat' (first | refine agree_upd rfl ?_ | exact agree_over | exact agree_refl _ _ | refine agree_over2 rfl ?_)), m - 1, _, by omega, Ent.pick [1, 0] rfl, ?_⟩
      exact ⟨i + 1, gn, gb, _, by omega, rfl, rfl, rfl, hRl, rfl⟩
  · obtain rfl : i = N := by omega
    have e1 := levR_at q M i M (by omega)
    repeat' (first|(apply OK_seq)|(apply thenQ_n)|(apply OK_region)|(apply OKx_nilK)|(apply blockQ_s)|(apply thenQ_e)|(apply OK_condF;exact rfl)|(apply OK_exit)|(apply OK_ret)|(apply OKx_move;(conv=>lhs;whnf)<;>exact rfl)|(apply OKx_assign;(conv=>lhs;whnf)<;>exact rfl)|(apply OKx_ldI;exact rfl; (apply atP;constructor);omega)|(apply OKx_lss;exact rfl;exact rfl;all_goals (intro _; try (exfalso;omega)))|(apply OKx_idxO;exact rfl;exact rfl;omega))
    refine bodyQ_r1 (by ((conv=>lhs;whnf)<;>exact rfl)) ?_
    exact ⟨_, Ent.nil, by rw [← e1], rfl⟩
set_option maxRecDepth 100000 in
set_option maxHeartbeats 4000000 in
theorem eqb1_sat (a b : List UInt8) (i k : Nat) (va vb pa pb : Value) (w : World) (ha : Sl w va 1 a.length (fun j => .int .u8 ((a.getD j 0).toNat : Int))) (hb : Sl w vb 1 b.length (fun j => .int .u8 ((b.getD j 0).toNat : Int)))
    (h1 : Pt1 w pa va) (h2 : Pt1 w pb vb) (hi : i < a.length) (hk : k < b.length) :
    SatV Tryz.prog 220 [.int .i64 (i : Int), .int .i64 (k : Int), pa, pb] w (.bool (byEq a b i k)) := by
  have hqq : byEq a b i k = decide (a.getD i 0 = b.getD k 0) := rfl
  refine SatL.of 16 [6] Tryz.func220 (by kernel_rfl) (by kernel_rfl) rfl rfl rfl rfl ?_
  repeat' (first|(apply OK_seq)|(apply thenQ_n)|(apply OK_region)|(refine OK_rid 1 ?_; refine OK_quiet (id := 1) (by kernel_rfl) (by kernel_rfl) ?_)|(apply OKx_nilK)|(apply OK_ret)|(apply OKx_move;(conv=>lhs;whnf)<;>exact rfl)|(apply OKx_assign;(conv=>lhs;whnf)<;>exact rfl)|(apply OKx_ldR;(conv=>lhs;whnf)<;>exact rfl;(with_reducible assumption))|(apply OKx_eql;exact rfl;exact rfl;all_goals (intro _; try (exfalso;omega)))|(apply OKx_idxR;(conv=>lhs;whnf)<;>exact rfl;(with_reducible assumption);exact rfl;omega;intro _ _))
  all_goals
    refine bodyQ_r1 (by ((conv=>lhs;whnf)<;>exact rfl)) ?_
    refine ⟨_, Ent.nil, bool_eq ?_, rfl⟩
    rw [hqq]
  · rw [eq_comm, decide_eq_true (UInt8.toNat_inj.1 (by omega))]
  · rename_i hne
    rw [eq_comm, decide_eq_false (fun e => hne (by rw [e]))]
set_option maxRecDepth 100000 in
set_option maxHeartbeats 4000000 in
theorem equalB1_sat (a1 a2 : Option Addr) (n1 c1 n2 c2 : Nat) (w : World) : Sat Tryz.prog 208 [.slice a1 n1 c1, .slice a2 n2 c2] w (fun u L => ∃ g1 g2, u = .func (.func 220) #[] #[.pointer (some ⟨g1, 0, none⟩), .pointer (some ⟨g2, 0, none⟩)] ∧ L = [.box 92 g2 [.slice a2 n2 c2], .box 92 g1 [.slice a1 n1 c1]]) := by
  refine SatL.of 6 [4] Tryz.func208 (by kernel_rfl) (by kernel_rfl) rfl rfl rfl rfl ?_
  repeat' (first|(apply OK_seq)|(apply thenQ_n)|(apply OK_region)|(apply OKx_nilK)|(apply OK_ret)|(apply OKx_assign;(conv=>lhs;whnf)<;>exact rfl)|(apply OKx_box1;(conv=>lhs;whnf)<;>exact rfl;exact rfl;intro _)|(apply OKx_func;exact rfl;exact rfl))
  rename_i x1 x2
  refine bodyQ_r1 (by ((conv=>lhs;whnf)<;>exact rfl)) ?_
  exact ⟨_, Ent.refl _ _, _, _, rfl, rfl⟩
set_option maxRecDepth 100000 in
set_option maxHeartbeats 4000000 in
theorem of_sat (a b : List UInt8) (w : World) (ha : a.length ≤ 256) (hb : b.length ≤ 256) : SatV Tryz.prog 191 [.string (bOf a), .string (bOf b)] w (.int .i64 ((lev a b : Nat) : Int)) := by
  have hza := bOf_size a
  have hzb := bOf_size b
  refine SatL.of 15 [4] Tryz.func191 (by kernel_rfl) (by kernel_rfl) rfl rfl rfl rfl ?_
  repeat' (first|(apply OK_seq)|(apply thenQ_n)|(apply OK_region)|(refine OKx_convSW (s := a) rfl (by kernel_rfl) Tryz.underlying92 (by kernel_rfl) ?_; intro ga ca hca)|(refine OKx_convSW (s := b) rfl (by kernel_rfl) Tryz.underlying92 (by kernel_rfl) ?_; intro gb cb hcb)|(apply OKx_gc 208;exact rfl; refine OKx_call (f := 208) rfl rfl (fun w1 hp => equalB1_sat _ _ _ _ _ _ w1) ?_; rintro _ _ ⟨x1, x2, rfl, rfl⟩; rw [List.cons_append, List.cons_append, List.nil_append])|(apply OKx_gc 207;exact rfl; refine OKx_callV (f := 207) (v := .int .i64 ((lev a b : Nat) : Int)) rfl rfl (by rw [hza, hzb]; rfl) (fun w1 hp => distances_sat a.length b.length _ _ (byEq a b) w1 (by omega) (by omega) (fun i k hi hk w2 hb2 => eqb1_sat a b i k _ _ _ _ w2 ((hp.bytesSl 3 rfl hca (by omega)).below hb2) ((hp.bytesSl 2 rfl hcb (by omega)).below hb2) (Pt1.below ⟨_, _, rfl, (hp.boxAt 1 rfl).1 0⟩ hb2) (Pt1.below ⟨_, _, rfl, (hp.boxAt 0 rfl).1 0⟩ hb2) hi hk)) ?_)|(apply OKx_nilK)|(apply OK_ret)|(apply OKx_move;(conv=>lhs;whnf)<;>exact rfl)|(apply OKx_assign;(conv=>lhs;whnf)<;>exact rfl)|(apply OKx_lenS;exact rfl))
  refine bodyQ_r1 (by ((conv=>lhs;whnf)<;>exact rfl)) ?_
  exact ⟨_, Ent.nil, rfl, rfl⟩
def dstE (a b : List UInt8) : Int := if 256 < max a.length b.length then 4 else 0
set_option maxRecDepth 100000 in
set_option maxHeartbeats 4000000 in
theorem Distance_sat (a b : List UInt8) (w : World) (ha : a.length ≤ 140737488355328) (hb : b.length ≤ 140737488355328) : SatV Tryz.prog 181 [.string (bOf a), .string (bOf b)] w (.tuple #[.int .i64 (if 256 < max a.length b.length then 0 else ((lev a b : Nat) : Int)), .int .i64 (dstE a b)]) := by
  have hza := bOf_size a
  have hzb := bOf_size b
  have hl : ∀ (n m : Nat) (w1 : World), SatV Tryz.prog 190 [.int .i64 (n : Int), .int .i64 (m : Int)] w1 (.bool (decide (256 < max n m))) := fun n m w1 => by
    refine SatL.of 9 [4] Tryz.func190 (by kernel_rfl) (by kernel_rfl) rfl rfl rfl rfl ?_
    repeat' (first|(apply OK_seq)|(apply thenQ_n)|(apply OK_region)|(apply OKx_nilK)|(apply OK_ret)|(apply OKx_move;(conv=>lhs;whnf)<;>exact rfl)|(apply OKx_assign;(conv=>lhs;whnf)<;>exact rfl)|(apply OKx_gtr;exact rfl;exact rfl;all_goals (intro _; try (exfalso;omega)))|(apply OKx_max;exact rfl;exact rfl))
    all_goals
      refine bodyQ_r1 (by ((conv=>lhs;whnf)<;>exact rfl)) ?_
      refine ⟨_, Ent.nil, bool_eq ?_, rfl⟩
    · rw [eq_comm, decide_eq_true (by omega)]
    · rw [eq_comm, decide_eq_false (by omega)]
  have hl2 := fun w1 => hl a.length b.length w1
  unfold dstE
  by_cases h : 256 < max a.length b.length
  · rw [if_pos h, if_pos h]
    rw [decide_eq_true h] at hl2
    refine SatL.of 14 [4, 5] Tryz.func181 (by kernel_rfl) (by kernel_rfl) rfl rfl rfl rfl ?_
    repeat' (first|(apply OK_seq)|(apply thenQ_n)|(apply OK_region)|(apply OKx_gc 190;exact rfl; refine OKx_callV (f := 190) (v := .bool true) rfl rfl (by rw [hza, hzb]; rfl) (fun w1 hp => hl2 w1) ?_)|(apply OKx_nilK)|(apply thenQ_r)|(apply OK_condT;exact rfl)|(apply OK_ret)|(apply OKx_move;(conv=>lhs;whnf)<;>exact rfl)|(apply OKx_assign;(conv=>lhs;whnf)<;>exact rfl)|(apply OKx_lenS;exact rfl))
    refine bodyQ_r2 (by ((conv=>lhs;whnf)<;>exact rfl)) (by ((conv=>lhs;whnf)<;>exact rfl)) ?_
    exact ⟨_, Ent.nil, rfl, rfl⟩
  · rw [if_neg h, if_neg h]
    rw [decide_eq_false h] at hl2
    have ho := fun w1 => of_sat a b w1 (by omega) (by omega)
    refine SatL.of 14 [4, 5] Tryz.func181 (by kernel_rfl) (by kernel_rfl) rfl rfl rfl rfl ?_
    repeat' (first|(apply OK_seq)|(apply thenQ_n)|(apply OK_region)|(apply OKx_gc 190;exact rfl; refine OKx_callV (f := 190) (v := .bool false) rfl rfl (by rw [hza, hzb]; rfl) (fun w1 hp => hl2 w1) ?_)|(apply OKx_gc 191;exact rfl; refine OKx_callV (f := 191) rfl rfl rfl (fun w1 hp => ho w1) ?_)|(apply OKx_nilK)|(apply OK_condF;exact rfl)|(apply OK_skip)|(apply OK_ret)|(apply OKx_move;(conv=>lhs;whnf)<;>exact rfl)|(apply OKx_assign;(conv=>lhs;whnf)<;>exact rfl)|(apply OKx_lenS;exact rfl))
    refine bodyQ_r2 (by ((conv=>lhs;whnf)<;>exact rfl)) (by ((conv=>lhs;whnf)<;>exact rfl)) ?_
    exact ⟨_, Ent.nil, rfl, rfl⟩
end Go.Proofs.YthnlnffmmioapaaGreatDoor
