/-
  Part 17 of the proof: Sm38, Gr38, La38, Lc38, Pa36, Sl07. No statement of the seat is proved here.
-/
import Derived.Test.YtdigdmnnjbndlaaGreatDoorMHTr3816
namespace Go.Proofs.YtdigdmnnjbndlaaGreatDoor
open Go.RowKit
def cells2 (l : List (Int × Int)) : List Value := l.flatMap fun x => [.int .i64 x.1, .int .i64 x.2]
theorem cells2_at (l : List (Int × Int)) : ∀ j, j < l.length → (cells2 l).getD (j * 2 + 0) undef = .int .i64 (l.getD j (0, 0)).1 ∧ (cells2 l).getD (j * 2 + 1) undef = .int .i64 (l.getD j (0, 0)).2 := by
  induction l with
  | nil => intro j hj; simp at hj
  | cons x l ih =>
    intro j hj
    cases j with
    | zero => exact ⟨rfl, rfl⟩
    | succ j =>
      have := ih j (by simpa using hj)
      rw [show (j + 1) * 2 + 0 = (j * 2 + 0) + 2 by omega, show (j + 1) * 2 + 1 = (j * 2 + 1) + 2 by omega]
      exact this
theorem cells2_len (l : List (Int × Int)) : (cells2 l).length = l.length * 2 := by
  unfold cells2
  induction l with
  | nil => rfl
  | cons x l ih => rw [List.flatMap_cons, List.length_append, ih]; simp;omega
def CV (l : List (Int × Int)) (j : Nat) : Nat → Value
  | 0 => .int .i64 (l.getD j (0, 0)).1
  | _ => .int .i64 (l.getD j (0, 0)).2
def Chs (w : World) (v : Value) (l : List (Int × Int)) : Prop := Sl2 w v 2 l.length (CV l)
theorem Chs.below {w w' : World} {v : Value} {l : List (Int × Int)} (h : Chs w v l) (hb : Below w.heap.size w w') : Chs w' v l := Sl2.below h hb
theorem Hp.chs {B : Nat} {w0 w : World} {L : List Res} (h : Hp B w0 w L) (i : Nat) {e : TypeId} {n : Nat} {v : Value} {l : List (Int × Int)} (hi : L[i]? = some (.row e 2 v n (cells2 l))) (hn : n = l.length) (hb : n ≤ 140737488355328) : Chs w v l := by
  subst hn
  have hl := cells2_len l
  obtain ⟨_, ⟨a, cap, rfl, hc⟩, _⟩ := h.sl i hi hb (f := fun k => (cells2 l).getD k undef) (fun j hj => by rw [List.getD_eq_getElem?_getD, List.getElem?_eq_getElem (by omega)]; rfl)
  refine ⟨hb, a, cap, rfl, ?_⟩
  rcases hc with h0 | ⟨b, off, ha, hc⟩
  · exact .inl h0
  refine .inr ⟨b, off, ha, fun j hj c hcs => ?_⟩
  have h1 := hc (j * 2 + c) (by omega)
  rw [Nat.add_assoc, h1]
  have h2 := cells2_at l j hj
  match c, hcs with
  | 0, _ => rw [h2.1]; rfl
  | 1, _ => rw [h2.2]; rfl
theorem eqF2 {P : Program} (w : World) (d : Nat) (f0 f1 : Field) (h0 : f0.name ≠ "_") (h1 : f1.name ≠ "_") (x y : Array Value) (a b c e : Value) (r0 r1 : Bool)
    (pa : (Go.part f0.type x f0.offset).run P w = .ok a w) (pc : (Go.part f0.type y f0.offset).run P w = .ok c w) (pb : (Go.part f1.type x f1.offset).run P w = .ok b w) (pe : (Go.part f1.type y f1.offset).run P w = .ok e w)
    (e0 : (Op.equalIn d f0.type a c).run P w = .ok r0 w) (e1 : (Op.equalIn d f1.type b e).run P w = .ok r1 w) : (Op.eqFields d x y [f0, f1]).run P w = .ok (r0 && r1) w := by
  simp only [Op.eqFields, if_pos h0, if_pos h1, Sem.run_bind, pa, pc, pb, pe, Result.andThen, e0, e1, Sem.run_ite, Sem.run_pure]
  cases r0 <;> cases r1 <;> rfl
theorem eqCh (w : World) (a b c d : Int) : (Op.equalIn 10000 76 (.agg #[.int .i64 a, .int .i64 b]) (.agg #[.int .i64 c, .int .i64 d])).run Tryz.prog w = .ok ((a == c) && (b == d)) w := by
  have hu := Tryz.underlying76
  have hi := Tryz.underlying3
  rw [run_equalIn_struct w 9999 _ _ _ (by kernel_rfl) (by kernel_rfl)]
  obtain ⟨f0, f1, hf, n0, n1, t0, t1, o0, o1⟩ : ∃ f0 f1, (Tryz.prog.fieldsOf 76).toList = [f0, f1] ∧ f0.name ≠ "_" ∧ f1.name ≠ "_" ∧ f0.type = 3 ∧ f1.type = 3 ∧ f0.offset = 0 ∧ f1.offset = 1 := by
    rw [Program.fieldsOf, hu]; exact ⟨_, _, rfl, by decide, by decide, rfl, rfl, rfl, rfl⟩
  rw [hf]
  have ha : (isAgg 3).run Tryz.prog w = .ok false w := by kernel_rfl
  have hp : ∀ (xs : Array Value) (k : Nat) (v : Value), xs[k]? = some v → (Go.part 3 xs k).run Tryz.prog w = .ok v w := fun xs k v hx => by simp [Go.part, Sem.run_bind, ha, Result.andThen, hx]
  exact eqF2 w 9999 f0 f1 n0 n1 _ _ (.int .i64 a) (.int .i64 b) (.int .i64 c) (.int .i64 d) _ _ (by rw [t0, o0]; exact hp _ _ _ rfl) (by rw [t0, o0]; exact hp _ _ _ rfl) (by rw [t1, o1]; exact hp _ _ _ rfl) (by rw [t1, o1]; exact hp _ _ _ rfl)
    (by rw [t0]; exact run_equalIn_int (P := Tryz.prog) w 9998 3 .i64 .i64 a c hi) (by rw [t1]; exact run_equalIn_int (P := Tryz.prog) w 9998 3 .i64 .i64 b d hi)
theorem OKx_neqCh {n : Nat} {w0 : World} {K : Fm → List Res → Prop} {F : Fm} {L : List Res} {m : Md} {ops : Array Oper} {rest : List Oper} {d : Option Nat} {ty : TypeId} {pos : String} {aft : Array Edge} {ut : TypeId} {x y : Operand} {a b c e : Int}
    (hx : rv n F x = .agg #[.int .i64 a, .int .i64 b]) (hy : rv n F y = .agg #[.int .i64 c, .int .i64 e]) (kT : ¬ (a = c ∧ b = e) → OKx Tryz.prog n w0 m ops K rest (updo F d (.bool true)) L) (kF : a = c ∧ b = e → OKx Tryz.prog n w0 m ops K rest (updo F d (.bool false)) L) :
    OKx Tryz.prog n w0 m ops K (⟨d, .binOp .neq 76 x y ut, ty, pos, aft, none⟩ :: rest) F L := by
  have key : ∀ (r : Bool), ((a == c) && (b == e)) = r → OKx Tryz.prog n w0 m ops K rest (updo F d (.bool (!r))) L → OKx Tryz.prog n w0 m ops K (⟨d, .binOp .neq 76 x y ut, ty, pos, aft, none⟩ :: rest) F L := fun r hr k =>
    OKx_still (fun w _ _ _ _ _ => by
      have hg := run_eqGuard_agg (P := Tryz.prog) w .neq 76 x y #[.int .i64 a, .int .i64 b] #[.int .i64 c, .int .i64 e] (by kernel_rfl)
      have h1 := run_neq_struct (P := Tryz.prog) w 76 #[.int .i64 a, .int .i64 b] #[.int .i64 c, .int .i64 e]
      rw [eqCh, hr] at h1
      simp [execOp, hx, hy, Sem.run_bind, hg, h1, Result.andThen]) k
  by_cases h : a = c ∧ b = e
  · exact key true (by simp [h]) (kF h)
  · refine key false ?_ (kT h)
    cases hr : ((a == c) && (b == e)) with
    | false => rfl
    | true => exact absurd (by simpa using hr) h
theorem pairs_end (l m : List (Int × Int)) (hl : l.length = m.length) (h : ∀ j, j < l.length → (l.getD j (0, 0)).1 = (m.getD j (0, 0)).1 ∧ (l.getD j (0, 0)).2 = (m.getD j (0, 0)).2) : l = m := by
  refine List.ext_getElem hl fun j h1 h2 => ?_
  have := h j h1
  rw [getD_lt _ _ _ h1, getD_lt _ _ _ h2] at this
  exact Prod.ext this.1 this.2
set_option maxRecDepth 100000 in
set_option maxHeartbeats 4000000 in
theorem equalCh_sat (v u : Value) (l m : List (Int × Int)) (w : World) (h : Chs w v l) (k : Chs w u m) : SatV Tryz.prog 45 [v, u] w (.bool (decide (l = m))) := by
  have h1 : Sl2 w v 2 l.length (CV l) := h
  have h2 : Sl2 w u 2 m.length (CV m) := k
  have hb1 := h1.1
  have hb2 := h2.1
  by_cases hl : l.length = m.length
  rotate_left
  · refine SatL.of 26 [4] Tryz.func45 (by kernel_rfl) (by kernel_rfl) rfl rfl rfl rfl ?_
    repeat' (first|(apply OK_seq)|(apply thenQ_n)|(apply OK_region)|(refine OK_rid 6 ?_; refine OK_quiet (id := 6) (by kernel_rfl) (by kernel_rfl) ?_)|(apply OKx_nilK)|(apply OK_block)|(apply blockQ_n)|(apply blockQ_s)|(apply thenQ_e)|(apply blockQ_e;exact rfl)|(apply thenQ_r)|(apply blockQ_r)|(apply OK_condT;exact rfl)|(apply OK_condF;exact rfl)|(apply OK_skip)|(apply OK_exit)|(apply OK_ret)|(apply OKx_move;(conv=>lhs;whnf)<;>exact rfl)|(apply OKx_assign;(conv=>lhs;whnf)<;>exact rfl)|(apply OKx_len;exact rfl)|(apply OKx_lenR;(conv=>lhs;whnf)<;>exact rfl;(with_reducible assumption))|(apply OKx_lenR2;(conv=>lhs;whnf)<;>exact rfl;(with_reducible assumption))|(apply OKx_lenO;(conv=>lhs;whnf)<;>exact rfl;(first | exact at0|exact at1|exact at2|exact at3|exact at4|exact at5|exact at6|exact at7))|(apply OKx_lss;exact rfl;exact rfl;all_goals (intro _; try (exfalso;omega)))|(apply OKx_neq;exact rfl;exact rfl;all_goals (intro _; try (exfalso;omega)))|(apply OKx_idxR2;(conv=>lhs;whnf)<;>exact rfl;(with_reducible assumption);exact rfl;omega;intro _ _)|(apply OKx_inc;exact rfl;exact rfl;omega)|(apply OKx_addN;exact rfl;exact rfl;omega)|(apply OKx_add;exact rfl;exact rfl;omega;omega)|(apply OKx_ldBA;exact rfl;(first | exact at0|exact at1|exact at2|exact at3|exact at4|exact at5|exact at6|exact at7);exact rfl)|(apply OKx_ldRA;(conv=>lhs;whnf)<;>exact rfl;(with_reducible assumption)))
    refine bodyQ_r1 (by ((conv=>lhs;whnf)<;>exact rfl)) ?_
    exact ⟨_, Ent.nil, bool_eq (decide_eq_false (fun e => hl (by rw [e]))).symm, rfl⟩
  refine SatL.of 26 [4] Tryz.func45 (by kernel_rfl) (by kernel_rfl) rfl rfl rfl rfl ?_
  repeat' (first|(apply OK_seq)|(apply thenQ_n)|(apply OK_region)|(refine OK_rid 6 ?_; refine OK_quiet (id := 6) (by kernel_rfl) (by kernel_rfl) ?_)|(apply OKx_nilK)|(apply OK_block)|(apply blockQ_n)|(apply blockQ_s)|(apply thenQ_e)|(apply blockQ_e;exact rfl)|(apply thenQ_r)|(apply blockQ_r)|(apply OK_condT;exact rfl)|(apply OK_condF;exact rfl)|(apply OK_skip)|(apply OK_exit)|(apply OK_ret)|(apply OKx_move;(conv=>lhs;whnf)<;>exact rfl)|(apply OKx_assign;(conv=>lhs;whnf)<;>exact rfl)|(apply OKx_len;exact rfl)|(apply OKx_lenR;(conv=>lhs;whnf)<;>exact rfl;(with_reducible assumption))|(apply OKx_lenR2;(conv=>lhs;whnf)<;>exact rfl;(with_reducible assumption))|(apply OKx_lenO;(conv=>lhs;whnf)<;>exact rfl;(first | exact at0|exact at1|exact at2|exact at3|exact at4|exact at5|exact at6|exact at7))|(apply OKx_lss;exact rfl;exact rfl;all_goals (intro _; try (exfalso;omega)))|(apply OKx_neq;exact rfl;exact rfl;all_goals (intro _; try (exfalso;omega)))|(apply OKx_idxR2;(conv=>lhs;whnf)<;>exact rfl;(with_reducible assumption);exact rfl;omega;intro _ _)|(apply OKx_inc;exact rfl;exact rfl;omega)|(apply OKx_addN;exact rfl;exact rfl;omega)|(apply OKx_add;exact rfl;exact rfl;omega;omega)|(apply OKx_ldBA;exact rfl;(first | exact at0|exact at1|exact at2|exact at3|exact at4|exact at5|exact at6|exact at7);exact rfl)|(apply OKx_ldRA;(conv=>lhs;whnf)<;>exact rfl;(with_reducible assumption)))
  refine OK_loop1 13 [4, 5, 13, 14, 15, 16, 17, 18, 19, 20, 21, 22, 23, 24, 25] (fun mm v L => ∃ k : Nat, k + mm = l.length ∧ v = .int .i64 (k : Int) ∧ (∀ j, j < k → (l.getD j (0, 0)).1 = (m.getD j (0, 0)).1 ∧ (l.getD j (0, 0)).2 = (m.getD j (0, 0)).2) ∧ L = []) l.length _ (Ent.refl _ _) ⟨0, by omega, rfl, fun j hj => absurd hj (by omega), rfl⟩ ?_
  rintro mm v L G ⟨k, hm, rfl, H, rfl⟩
  repeat' (first|(apply OK_seq)|(apply thenQ_n)|(apply OK_region)|(refine OKx_neqCh (a := (l.getD k (0, 0)).1) (b := (l.getD k (0, 0)).2) (c := (m.getD k (0, 0)).1) (e := (m.getD k (0, 0)).2) rfl rfl ?_ ?_ <;> intro hq)|(refine OK_rid 6 ?_; refine OK_quiet (id := 6) (by kernel_rfl) (by kernel_rfl) ?_)|(apply OKx_nilK)|(apply OK_block)|(apply blockQ_n)|(apply blockQ_s)|(apply thenQ_e)|(apply blockQ_e;exact rfl)|(apply thenQ_r)|(apply blockQ_r)|(apply OK_condT;exact rfl)|(apply OK_condF;exact rfl)|(apply OK_skip)|(apply OK_exit)|(apply OK_ret)|(apply OKx_move;(conv=>lhs;whnf)<;>exact rfl)|(apply OKx_assign;(conv=>lhs;whnf)<;>exact rfl)|(apply OKx_len;exact rfl)|(apply OKx_lenR;(conv=>lhs;whnf)<;>exact rfl;(with_reducible assumption))|(apply OKx_lenR2;(conv=>lhs;whnf)<;>exact rfl;(with_reducible assumption))|(apply OKx_lenO;(conv=>lhs;whnf)<;>exact rfl;(first | exact at0|exact at1|exact at2|exact at3|exact at4|exact at5|exact at6|exact at7))|(apply OKx_lss;exact rfl;exact rfl;all_goals (intro _; try (exfalso;omega)))|(apply OKx_neq;exact rfl;exact rfl;all_goals (intro _; try (exfalso;omega)))|(apply OKx_idxR2;(conv=>lhs;whnf)<;>exact rfl;(with_reducible assumption);exact rfl;omega;intro _ _)|(apply OKx_inc;exact rfl;exact rfl;omega)|(apply OKx_addN;exact rfl;exact rfl;omega)|(apply OKx_add;exact rfl;exact rfl;omega;omega)|(apply OKx_ldBA;exact rfl;(first | exact at0|exact at1|exact at2|exact at3|exact at4|exact at5|exact at6|exact at7);exact rfl)|(apply OKx_ldRA;(conv=>lhs;whnf)<;>exact rfl;(with_reducible assumption)))
  · refine bodyQ_r1 (by ((conv=>lhs;whnf)<;>exact rfl)) ?_
    exact ⟨_, Ent.nil, bool_eq (decide_eq_false (fun e => hq (by rw [e]; exact ⟨rfl, rfl⟩))).symm, rfl⟩
  · refine ⟨by (repeat' (first | refine agree_upd rfl ?_ | exact agree_over | exact agree_refl _ _ | refine agree_over2 rfl ?_)), mm - 1, _, by omega, Ent.refl _ _, ?_⟩
    refine ⟨k + 1, by omega, rfl, fun j hj => ?_, rfl⟩
    by_cases h : j < k
    · exact H j h
    · obtain rfl : j = k := by omega
      exact hq
  · refine bodyQ_r1 (by ((conv=>lhs;whnf)<;>exact rfl)) ?_
    exact ⟨_, Ent.nil, bool_eq (decide_eq_true (pairs_end l m hl (fun j hj => H j (by omega)))).symm, rfl⟩
def chcL (s : Stem) (all : List Int) : List (Int × Int) := (copN s.par s.par.length).map fun i : Nat => ((i : Int), chV s.par all i)
theorem chcC_list (s : Stem) (all : List Int) : chcC s all s.par.length = cells2 (chcL s all) := by
  unfold chcC cells2 chcL
  rw [List.flatMap_map]
theorem chcL_len (s : Stem) (all : List Int) : (chcL s all).length = (copN s.par s.par.length).length := by simp [chcL]
end Go.Proofs.YtdigdmnnjbndlaaGreatDoor
namespace Go.Proofs.YtdigdmnnjbndlaaGreatDoor
open Go.RowKit
theorem anyD_hit {α : Type} (xs : List α) (d : α) (p : α → Bool) (k : Nat) (h : k < xs.length) (e : p (xs.getD k d) = true) : xs.any p = true := by
  rw [getD_lt _ _ _ h] at e
  exact List.any_eq_true.2 ⟨_, List.getElem_mem h, e⟩
theorem anyD_none {α : Type} (xs : List α) (d : α) (p : α → Bool) (h : ∀ k, k < xs.length → p (xs.getD k d) = false) : xs.any p = false := by
  rw [List.any_eq_false]
  intro x hx
  obtain ⟨k, hk, rfl⟩ := List.getElem_of_mem hx
  have := h k hk
  rw [getD_lt _ _ _ hk] at this
  rw [this]; simp
end Go.Proofs.YtdigdmnnjbndlaaGreatDoor
namespace Go.Proofs.YtdigdmnnjbndlaaGreatDoor
open Go.RowKit
def ex1 : Stem := ⟨[⟨#[120]⟩, ⟨#[65]⟩, ⟨#[66]⟩, ⟨#[67]⟩], [false, true, true, true], [[], [0], [0], [0]]⟩
def ex2 : Stem := ⟨[⟨#[120]⟩, ⟨#[66]⟩, ⟨#[65]⟩], [false, true, true], [[], [0], [0, 1]]⟩
theorem ex1S : scN ex1 [-1, 0, 1, 1] = 1 ∧ scE ex1 [-1, 0, 1, 1] = 0 ∧ scL ex1 [-1, 0, 1, 1] = [1, 0, 1, 1] := by decide +kernel
theorem ex1T : totN ex1 [[-1, 0, 1, 1], [0, 0, 1, 2]] = 3 ∧ totE ex1 [[-1, 0, 1, 1], [0, 0, 1, 2]] = 0 := by decide +kernel
theorem ex2C : chcE ex2 [1, 0, 0] = 0 ∧ chcL ex2 [1, 0, 0] = [(1, -1), (2, 1)] := by decide +kernel
theorem ex1Score (v sv : Value) (w : World) (h : Stm w v ex1) (hs : Ints w sv [-1, 0, 1, 1]) : SatV Tryz.prog 14 [v, sv] w (.tuple #[.int .i64 1, .int .i64 0]) := by
  have := Score_sat v sv ex1 _ w h hs
  rwa [ex1S.1, ex1S.2.1] at this
theorem ex1Assign (v sv : Value) (w : World) (h : Stm w v ex1) (hs : Ints w sv [-1, 0, 1, 1]) : Sat Tryz.prog 42 [v, sv] w (fun u L => ∃ a c, u = .tuple #[.slice a 4 c, .int .i64 0] ∧ L = [.row 3 1 (.slice a 4 c) 4 (ints [1, 0, 1, 1])]) :=
  (Assign_sat v sv ex1 _ w h hs).mono fun u L ⟨a, n, c, h1, h2, h3⟩ => by
    rw [ex1S.2.2] at h2 h3
    rw [ex1S.2.1] at h1
    subst h2
    exact ⟨a, c, h1, h3⟩
theorem ex1Total (v sv : Value) (w : World) (h : Stm w v ex1) (hs : Tabs w sv [[-1, 0, 1, 1], [0, 0, 1, 2]]) : SatV Tryz.prog 44 [v, sv] w (.tuple #[.int .i64 3, .int .i64 0]) := by
  have := Total_sat v sv ex1 _ w h hs
  rwa [ex1T.1, ex1T.2] at this
theorem ex2Choices (v sv : Value) (w : World) (h : Stm w v ex2) (hs : Ints w sv [1, 0, 0]) : Sat Tryz.prog 43 [v, sv] w (fun u L => ∃ a c, u = .tuple #[.slice a 2 c, .int .i64 0] ∧ L = [.row 76 2 (.slice a 2 c) 2 (cells2 [(1, -1), (2, 1)])]) :=
  (Choices_sat v sv ex2 _ w h hs).mono fun u L hR => by
    rcases hR with ⟨h1, _⟩ | ⟨h1, a, n, c, h2, h3, h4⟩
    · exact absurd ex2C.1 h1
    · rw [chcC_list, ex2C.2] at h4
      have hn : n = 2 := by rw [h3, ← chcL_len, ex2C.2]; rfl
      subst hn
      exact ⟨a, c, h2, h4⟩
set_option maxRecDepth 100000 in
set_option maxHeartbeats 4000000 in
theorem awake38_sat (w : World) : SatV Tryz.prog 9 [] w (.bool true) := by
  refine SatL.of 76 [0] Tryz.func9 (by kernel_rfl) (by kernel_rfl) rfl rfl rfl rfl ?_
  repeat' (first|(apply OK_seq)|(apply thenQ_n)|(apply OK_region)|(apply OKx_gt; apply OKx_slit4; (focus ((conv=>lhs;whnf)<;>exact rfl)); (focus ((conv=>lhs;whnf)<;>exact rfl)); (focus ((conv=>lhs;whnf)<;>exact rfl)); (focus ((conv=>lhs;whnf)<;>exact rfl)); (focus exact rfl); (focus exact rfl); (focus exact rfl); (focus exact rfl);intro _)|(apply OKx_gc 14;exact rfl; refine OKx_callV (f := 14) (v := .tuple #[.int .i64 1, .int .i64 0]) rfl rfl rfl (fun w hp => ex1Score _ _ w (hp.stm 7 6 2 (ps := [[], [0], [0], [0]]) rfl rfl rfl (by decide) (by decide) (by decide) (by decide) rfl (ltn4 (Ints.nil w) (hp.ints 5 rfl (by decide)) (hp.ints 4 rfl (by decide)) (hp.ints 3 rfl (by decide)))) (hp.ints 0 rfl (by decide))) ?_)|(apply OKx_gc 42;exact rfl; refine OKx_call (f := 42) rfl rfl (fun w hp => ex1Assign _ _ w (hp.stm 8 7 3 (ps := [[], [0], [0], [0]]) rfl rfl rfl (by decide) (by decide) (by decide) (by decide) rfl (ltn4 (Ints.nil w) (hp.ints 6 rfl (by decide)) (hp.ints 5 rfl (by decide)) (hp.ints 4 rfl (by decide)))) (hp.ints 0 rfl (by decide))) ?_; rintro _ _ ⟨aA, cA, rfl, rfl⟩; rw [List.cons_append, List.nil_append])|(apply OKx_gc 43;exact rfl; refine OKx_call (f := 43) rfl rfl (fun w hp => ex2Choices _ _ w (hp.stm 6 5 2 (ps := [[], [0], [0, 1]]) rfl rfl rfl (by decide) (by decide) (by decide) (by decide) rfl (ltn3 (Ints.nil w) (hp.ints 4 rfl (by decide)) (hp.ints 3 rfl (by decide)))) (hp.ints 0 rfl (by decide))) ?_; rintro _ _ ⟨aC, cC, rfl, rfl⟩; rw [List.cons_append, List.nil_append])|(apply OKx_gc 44;exact rfl; refine OKx_callV (f := 44) (v := .tuple #[.int .i64 3, .int .i64 0]) rfl rfl rfl (fun w hp => ex1Total _ _ w (hp.stm 20 19 15 (ps := [[], [0], [0], [0]]) rfl rfl rfl (by decide) (by decide) (by decide) (by decide) rfl (ltn4 (Ints.nil w) (hp.ints 18 rfl (by decide)) (hp.ints 17 rfl (by decide)) (hp.ints 16 rfl (by decide)))) (hp.tabs 0 (xs := [[-1, 0, 1, 1], [0, 0, 1, 2]]) rfl (by decide) rfl (ltn2 (hp.ints 2 rfl (by decide)) (hp.ints 1 rfl (by decide))))) ?_)|(apply OKx_gl; refine OKx_ldBA 11 rfl rfl rfl ?_)|(apply OKx_gb; refine OKx_max4 (r := 0) rfl rfl rfl rfl (by decide) ?_)|(apply OKx_gt; refine OKx_slit (vs := [.agg #[.int .i64 1, .int .i64 (-1)], .agg #[.int .i64 2, .int .i64 1]]) (cs := [[.int .i64 1, .int .i64 (-1)], [.int .i64 2, .int .i64 1]]) [.int .i64 1, .int .i64 (-1), .int .i64 2, .int .i64 1] rfl rfl rfl rfl rfl rfl ?_; intro gd)|(apply OKx_gc 33;exact rfl; refine OKx_callV (f := 33) (v := .bool true) rfl rfl rfl (fun w hp => equalT_sat _ _ [1, 0, 1, 1] [1, 0, 1, 1] w (hp.ints 12 rfl (by decide)) (hp.ints 0 rfl (by decide)) rfl) ?_)|(apply OKx_gc 45;exact rfl; refine OKx_callV (f := 45) (v := .bool true) rfl rfl rfl (fun w hp => equalCh_sat _ _ [(1, -1), (2, 1)] [(1, -1), (2, 1)] w (hp.chs 5 rfl rfl (by decide)) (hp.chs 0 rfl rfl (by decide))) ?_)|(apply OKx_nilK)|(apply OK_block)|(apply blockQ_n)|(apply blockQ_s)|(apply thenQ_e)|(apply blockQ_e;exact rfl)|(apply thenQ_r)|(apply blockQ_r)|(apply OK_condT;exact rfl)|(apply OK_condF;exact rfl)|(apply OK_skip)|(apply OK_exit)|(apply OK_ret)|(apply OKx_move;(conv=>lhs;whnf)<;>exact rfl)|(apply OKx_assign;(conv=>lhs;whnf)<;>exact rfl)|(apply OKx_eql;exact rfl;exact rfl;all_goals (intro _; try (exfalso;omega)))|(apply OKx_max;exact rfl;exact rfl)|(apply OKx_pickT;exact rfl;(conv=>lhs;whnf)<;>exact rfl)|(apply OKx_pickF;exact rfl;(conv=>lhs;whnf)<;>exact rfl)|(apply OKx_guardT;exact rfl;exact rfl)|(apply OKx_guardF;exact rfl;exact rfl)|(apply OKx_guardU;exact rfl;exact rfl)|(apply OKx_extract;exact rfl;(conv=>lhs;whnf)<;>exact rfl)|(apply OKx_allocA;intro _)|(apply OKx_ldBA;exact rfl;(first | exact at0|exact at1|exact at2|exact at3|exact at4|exact at5|exact at6|exact at7);exact rfl)|(apply OKx_ldRA;(conv=>lhs;whnf)<;>exact rfl;(with_reducible assumption))|(apply OKx_slit1;(conv=>lhs;whnf)<;>exact rfl;exact rfl;intro _)|(apply OKx_slit3;(conv=>lhs;whnf)<;>exact rfl;(conv=>lhs;whnf)<;>exact rfl;(conv=>lhs;whnf)<;>exact rfl;exact rfl;exact rfl;exact rfl;intro _)|(apply OKx_slit2;(conv=>lhs;whnf)<;>exact rfl;(conv=>lhs;whnf)<;>exact rfl;exact rfl;exact rfl;intro _)|(apply OKx_build3;(conv=>lhs;whnf)<;>exact rfl;(conv=>lhs;whnf)<;>exact rfl;(conv=>lhs;whnf)<;>exact rfl;exact rfl;exact rfl;exact rfl)|(apply OKx_build2;(conv=>lhs;whnf)<;>exact rfl;(conv=>lhs;whnf)<;>exact rfl;exact rfl;exact rfl)|(apply OKx_stBA; kernel_rfl;exact rfl;exact rfl;exact rfl;(first | exact at0|exact at1|exact at2|exact at3|exact at4|exact at5|exact at6|exact at7);exact rfl;exact rfl;exact rfl))
  refine bodyQ_r1 (by ((conv=>lhs;whnf)<;>exact rfl)) ?_
  exact ⟨_, Ent.nil, rfl, rfl⟩
end Go.Proofs.YtdigdmnnjbndlaaGreatDoor
namespace Go.Proofs.YtdigdmnnjbndlaaGreatDoor
open Go.RowKit
theorem Pt.below {w w' : World} {p : Value} {sz : Nat} {f : Nat → Value} (h : Pt w p sz f) (hb : Below w.heap.size w w') : Pt w' p sz f := by
  obtain ⟨b, o, rfl, hc⟩ := h
  exact ⟨b, o, rfl, fun j hj => (hb.cell (World.block_lt_of_cell? w _ (hc j hj))).trans (hc j hj)⟩
end Go.Proofs.YtdigdmnnjbndlaaGreatDoor
namespace Go.Proofs.YtdigdmnnjbndlaaGreatDoor
open Go.RowKit
theorem strs_at (ws : List ByteArray) (k : Nat) (h : k < ws.length) : (strs ws)[k]? = some (.string (ws.getD k ByteArray.empty)) := by
  unfold strs
  rw [List.getElem?_map, List.getElem?_eq_getElem h, getD_lt _ _ _ h]
  rfl
set_option maxRecDepth 100000 in
set_option maxHeartbeats 4000000 in
theorem conS_sat (v : Value) (xs : List ByteArray) (x : ByteArray) (w : World) (h : Strs w v xs) : SatV Tryz.prog 47 [v, .string x] w (.bool (Lib.containsS xs x)) :=
  Sat.lib ⟨_, _, Tryz.func47, by kernel_rfl, rfl⟩ fun w1 hb => (contains_str v xs x w1 (h.below hb)).mono fun e w' ⟨h1, h2⟩ => by
    subst h2
    exact ⟨_, [], h1, Hp.refl w1, rfl, rfl⟩
theorem Strs.drop {w : World} {g n cap o' : Nat} {xs : List ByteArray} (h : Strs w (.slice (some ⟨g, 0, none⟩) n cap) xs) (k : Nat) (hk : k ≤ xs.length) (ho : k < cap → o' = 0 + k * 1) : Strs w (.slice (some ⟨g, o', none⟩) (n - k) (cap - k)) (xs.drop k) := by
  obtain ⟨⟨hl, ⟨a', c', hv, hc⟩, hr⟩, h2⟩ := h
  simp only [Value.slice.injEq] at hv
  obtain ⟨rfl, rfl, rfl⟩ := hv
  have hcap := hr _ _ _ rfl
  have hlen : (xs.drop k).length = xs.length - k := List.length_drop
  refine ⟨⟨by omega, ⟨_, cap - k, by rw [hlen], ?_⟩, fun a1 m c hv => ?_⟩, fun s hs => h2 s (List.mem_of_mem_drop hs)⟩
  case refine_2 =>
    simp only [Value.slice.injEq] at hv
    omega
  rw [hlen]
  by_cases h0 : xs.length - k = 0
  · exact .inl h0
  right
  refine ⟨g, o', rfl, fun j hj => ?_⟩
  rcases hc with hc | ⟨b, off, ha, hc⟩
  · omega
  simp only [Option.some.injEq, Addr.mk.injEq] at ha
  obtain ⟨rfl, rfl, _⟩ := ha
  have := hc (k + j) (by omega)
  rw [ho (by omega), Nat.add_assoc, Nat.mul_one]
  rw [this]
  simp [List.getD_eq_getElem?_getD, List.getElem?_drop]
theorem Hp.drop6 {B : Nat} {w0 w : World} {a b c d e f : Res} {L : List Res} (h : Hp B w0 w (a :: b :: c :: d :: e :: f :: L)) : Hp B w0 w L := h.drop1.drop1.drop1.drop1.drop1.drop1
end Go.Proofs.YtdigdmnnjbndlaaGreatDoor
namespace Go.Proofs.YtdigdmnnjbndlaaGreatDoor
open Go.RowKit
section
variable {P : Program} {n : Nat} {w0 : World} {K : Fm → List Res → Prop} {F : Fm} {L : List Res} {m : Md} {ops : Array Oper} {rest : List Oper} {d : Option Nat} {ty : TypeId} {pos : String} {aft : Array Edge}
theorem OKx_sslH7 {t : TypeId} [T : TStr P t] {x hi : Operand} {s r : List UInt8} {h : Nat} {k : IntKind} (hx : rv n F x = .string (bOf s)) (hl : rv n F hi = .int k (h : Int)) (h1 : h ≤ s.length) (hr : s.take h = r)
    (kk : OKx P n w0 m ops K rest (updo F d (.string (bOf r))) L) : OKx P n w0 m ops K (⟨d, .slice t x none (some hi) none, ty, pos, aft, none⟩ :: rest) F L :=
  OKx_still (fun w _ _ _ _ _ => by
    have h2 := run_sliceAt_string (P := P) (w := w) t (.string (bOf s)) none (some (.int k (h : Int))) none T.und
    have h3 := run_slice_string_h (P := P) w t (bOf s) T.und k (h : Int) (by omega) (by rw [bOf_size];omega)
    have e : (bOf s).extract 0 h = bOf r := by
      rw [Lib.extract_eq, data_bOf, List.drop_zero, Nat.sub_zero, hr]
      rfl
    rw [Int.toNat_natCast, e] at h3
    rw [h3] at h2
    simp [execOp, hx, hl, h2, Result.andThen]) kk
end
end Go.Proofs.YtdigdmnnjbndlaaGreatDoor
