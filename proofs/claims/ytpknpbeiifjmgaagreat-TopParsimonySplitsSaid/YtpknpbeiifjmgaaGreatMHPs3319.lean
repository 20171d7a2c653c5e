/-
  Part 19 of the proof: It33. No statement of the seat is proved here.
-/
import Derived.Test.YtpknpbeiifjmgaaGreatMHPs3318
namespace Go.Proofs.YtpknpbeiifjmgaaGreat
open Go.RowKit
section
variable {P : Program} {n : Nat} {w0 : World} {Q : Exit → Fm → List Res → Prop} {F : Fm} {L : List Res}
theorem OK_regionYg {id : Nat} {l : List Oper} (l1 l2 : List Oper) {d : Option Nat} {fo : Operand} {args : Array Operand} {tt : Array TypeId} {ty : TypeId} {pos : String} {aft : Array Edge} {j t : Nat} {b : Bool} (hl : l = l1 ++ ⟨d, .call { callee := .value fo, args := args, argTypes := tt }, ty, pos, aft, some (j, b)⟩ :: l2) (hn : (l1.all noDef && l2.all noDef) = true) (hj : (l.toArray[j]?).bind (·.dst) = some t)
    (h : OKx P n w0 (.seq []) l.toArray (fun F1 L1 => rv n F1 (.tmp t) = .bool b ∧ ∃ (y : Nat) (av : List Value) (R : Value → List Res → Prop), rv n F1 fo = .func (.yield y) #[] #[] ∧ args.toList.map (rv n F1) = av ∧ SatY P y av w0 L1 R ∧
      ∀ v L', R v L' → OKx P n w0 (.seq []) l.toArray (Q .normal) l2 (updo F1 d v) L') l1 F L) : OK P n w0 Q (.region id l.toArray false) F L := by
  rw [Bool.and_eq_true] at hn
  refine OK.mk' fun w a hf hp => (wpIn_wide (n := 0)).1 (wpIn_region_lit ?_)
  have key := list_in (P := P) (ops := l.toArray) (ro := none) (C := fun w => Hp w0.heap.size w0 w []) (Q := liftN n w0 _) (Q' := lift n w0 Q) liftN_noPanic liftN_noOut (⟨d, .call { callee := .value fo, args := args, argTypes := tt }, ty, pos, aft, some (j, b)⟩ :: l2) ?_ l1 a w hn.1 (h.use w a hf hp)
  · rw [← hl] at key; exact key
  · rintro a1 w1 ⟨_, F1, L1, hf1, hp1, hb, y, av, R, h1, h2, hy, h3⟩
    obtain ⟨fn, tmps, assign, body, hrun, hround⟩ := hy w1 hp1
    unfold wpListIn
    have hw : Region.wanted (⟨d, .call { callee := .value fo, args := args, argTypes := tt }, ty, pos, aft, some (j, b)⟩ : Oper) (yielded l.toArray a1.tmps) = true := by
      simp [Region.wanted, hf1.yield hj hb]
    rw [if_pos hw]
    refine ⟨fun f _ => trivial, ?_⟩
    have hexec : ((⟨d, .call { callee := .value fo, args := args, argTypes := tt }, ty, pos, aft, some (j, b)⟩ : Oper).semAt (fen none).round a1.eval).run P w1 = .ok (.round y fn tmps assign body) w1 := by
      have e : Array.map (rv n F1) args = av.toArray := by rw [← Array.toList_inj, ← h2]; simp
      have hr : (fen none).round = none := rfl
      rw [hr, Oper.semAt_none, hf1.eval]
      simp only [execOp, resolve, h1, Deferred.ofValue, Sem.run_bind, Sem.run_pure, Result.andThen, invoke, Array.empty_append, Array.append_empty, e, hrun]
    rw [hexec]
    refine ⟨fun h => (by cases h), hround.mono ?_⟩
    rintro e w2 ⟨v, L', rfl, hp2, hR⟩
    have h4 := list_in (P := P) (ops := l.toArray) (ro := none) (Q := liftN n w0 (Q .normal)) (Q' := lift n w0 Q) liftN_noPanic liftN_noOut [] (fun a w h => (by obtain ⟨_, F', L', h1, h2, h3⟩ := h; exact ⟨F', L', h1, h2, h3⟩)) l2 _ w2 hn.2 ((h3 v L' hR).use w2 _ (hf1.put d v) hp2)
    rw [List.append_nil] at h4
    exact h4
end
theorem swapE {w0 : World} (J Z B : List Res) : Ent w0 ((J ++ Z) ++ B) (Z ++ (J ++ B)) := by
  refine Ent.perm ?_
  rw [← List.append_assoc Z J B]
  exact List.perm_append_comm.append_right B
theorem swapF {w0 : World} (J Z B : List Res) : Ent w0 (Z ++ (J ++ B)) ((J ++ Z) ++ B) := by
  refine Ent.perm ?_
  rw [← List.append_assoc Z J B]
  exact List.perm_append_comm.append_right B
theorem takeAt (xs : List Int) (k : Nat) (h : k < xs.length) : xs.take (k + 1) = xs.take k ++ [xs.getD k 0] := by
  rw [getD_lt _ _ _ h]
  exact List.take_succ_eq_append_getElem h
theorem SatY.mono2 {P : Program} {l : Nat} {args : List Value} {w0 : World} {L : List Res} {R R' : Value → List Res → Prop} (h : SatY P l args w0 L R) (hr : ∀ v L, R v L → R' v L) : SatY P l args w0 L R' :=
  fun w hp => let ⟨fn, t, as2, b, h1, h2⟩ := h w hp; ⟨fn, t, as2, b, h1, h2.mono fun e w' ⟨v, L', a, b, c⟩ => ⟨v, L', a, b, hr _ _ c⟩⟩
def IterI (w0 : World) (f : FuncId) (caps : List Value) (Z : List Res) (xs : List Int) : Prop :=
  ∀ (y : Nat) (Br : List Res) (JP : List Int → List Res → Prop),
    (∀ pre x J, JP pre J → (pre ++ [x]) <+: xs → SatY Tryz.prog y [.int .i64 x] w0 ((J ++ Z) ++ Br) (fun u L => u = .bool true ∧ ∃ J', JP (pre ++ [x]) J' ∧ L = (J' ++ Z) ++ Br)) →
    ∀ J, JP [] J → SatL Tryz.prog f (.func (.yield y) #[] #[] :: caps) w0 (Z ++ (J ++ Br)) (fun _ L => ∃ J', JP xs J' ∧ L = Z ++ (J' ++ Br))
theorem take_pre {α : Type} (xs : List α) (k : Nat) : xs.take k <+: xs := List.take_prefix k xs
set_option maxRecDepth 100000 in
set_option maxHeartbeats 4000000 in
theorem values_sat (a : Option Addr) (n c : Nat) (w : World) : Sat Tryz.prog 9 [.slice a n c] w (fun u L => ∃ g, u = .func (.func 23) #[] #[.pointer (some ⟨g, 0, none⟩)] ∧ L = [.box 22 g [.slice a n c]]) := by
  refine SatL.of 4 [2] Tryz.func9 (by kernel_rfl) (by kernel_rfl) rfl rfl rfl rfl ?_
  repeat' (first|(apply OK_seq)|(apply thenQ_n)|(apply OK_region)|(apply OKx_nilK)|(apply OK_block)|(apply blockQ_n)|(apply blockQ_s)|(apply thenQ_e)|(apply blockQ_e;exact rfl)|(apply thenQ_r)|(apply blockQ_r)|(apply OK_condT;exact rfl)|(apply OK_condF;exact rfl)|(apply OK_skip)|(apply OK_exit)|(apply OK_ret)|(apply OKx_assign;(conv=>lhs;whnf)<;>exact rfl)|(apply OKx_box1;(conv=>lhs;whnf)<;>exact rfl;exact rfl;intro _)|(apply OKx_func;exact rfl;exact rfl))
  rename_i g
  refine bodyQ_r1 (by ((conv=>lhs;whnf)<;>exact rfl)) ?_
  exact ⟨_, Ent.refl _ _, g, rfl, rfl⟩
set_option maxRecDepth 100000 in
set_option maxHeartbeats 2000000 in
theorem values1 {w0 : World} {g : Nat} {sv : Value} {xs : List Int} {X : List Res} (h : Ints w0 sv xs) : IterI w0 23 [.pointer (some ⟨g, 0, none⟩)] (.box 22 g [sv] :: X) xs := by
  intro y Br JP hy J hJ
  have hsl := h.sl
  have hb := hsl.bound
  generalize hR : (fun (_ : Value) (L : List Res) => ∃ J', JP xs J' ∧ L = (Res.box 22 g [sv] :: X) ++ (J' ++ Br)) = R
  simp only [List.cons_append, List.nil_append]
  refine SatL.of 16 [] Tryz.func23 (by kernel_rfl) (by kernel_rfl) rfl rfl rfl rfl ?_
  repeat' (first|(apply OK_seq)|(apply thenQ_n)|(apply OK_region)|(apply OKx_nilK)|(apply OK_block)|(apply blockQ_n)|(apply blockQ_s)|(apply thenQ_e)|(apply blockQ_e;exact rfl)|(apply thenQ_r)|(apply blockQ_r)|(apply OK_condT;exact rfl)|(apply OK_condF;exact rfl)|(apply OK_skip)|(apply OK_exit)|(apply OK_ret)|(apply OKx_move;(conv=>lhs;whnf)<;>exact rfl)|(apply OKx_assign;(conv=>lhs;whnf)<;>exact rfl)|(apply OKx_ldB;exact rfl;(first | exact at0|exact at1|exact at2|exact at3|exact at4|exact at5|exact at6|exact at7);exact rfl)|(apply OKx_ldR;(conv=>lhs;whnf)<;>exact rfl;(with_reducible assumption))|(apply OKx_ldI;exact rfl;(first | exact at0|exact at1|exact at2|exact at3|exact at4|exact at5|exact at6|exact at7);omega)|(apply OKx_len;exact rfl)|(apply OKx_lenR;(conv=>lhs;whnf)<;>exact rfl;(with_reducible assumption))|(apply OKx_lenR2;(conv=>lhs;whnf)<;>exact rfl;(with_reducible assumption))|(apply OKx_lenO;(conv=>lhs;whnf)<;>exact rfl;(first | exact at0|exact at1|exact at2|exact at3|exact at4|exact at5|exact at6|exact at7))|(apply OKx_lss;exact rfl;exact rfl;all_goals (intro _; try (exfalso;omega)))|(apply OKx_idxO;exact rfl;exact rfl;omega)|(apply OKx_idxR;(conv=>lhs;whnf)<;>exact rfl;(with_reducible assumption);exact rfl;omega;intro _ _)|(apply OKx_idxOz;exact rfl;exact rfl;omega;omega)|(apply OKx_idxRz;(conv=>lhs;whnf)<;>exact rfl;(with_reducible assumption);exact rfl;omega;omega;intro _ _)|(apply OKx_inc;exact rfl;exact rfl;omega)|(apply OKx_addN;exact rfl;exact rfl;omega)|(apply OKx_add;exact rfl;exact rfl;omega;omega)|(apply OKx_notT;exact rfl)|(apply OKx_notF;exact rfl))
  refine OK_loop1 7 [4, 7, 8, 9, 10, 11, 12, 13, 14, 15] (fun m v L => ∃ (k : Nat) (J' : List Res), k + m = xs.length ∧ v = .int .i64 (k : Int) ∧ JP (xs.take k) J' ∧ L = .box 22 g [sv] :: (X ++ (J' ++ Br))) xs.length _ (Ent.refl _ _) ⟨0, J, by omega, rfl, hJ, rfl⟩ ?_
  rintro m v L G ⟨k, J', hm, rfl, hJ', rfl⟩
  by_cases hk : k < xs.length
  · have htk := takeAt xs k hk
    have hyy := hy _ (xs.getD k 0) J' hJ' (by rw [← htk]; exact take_pre xs (k + 1))
    repeat' (first|(refine OK_regionY (id := 3) 0 [_, _] [_] rfl rfl ?_)|(apply OK_seq)|(apply thenQ_n)|(apply OK_region)|(apply OKx_nilK)|(apply OK_block)|(apply blockQ_n)|(apply blockQ_s)|(apply thenQ_e)|(apply blockQ_e;exact rfl)|(apply thenQ_r)|(apply blockQ_r)|(apply OK_condT;exact rfl)|(apply OK_condF;exact rfl)|(apply OK_skip)|(apply OK_exit)|(apply OK_ret)|(apply OKx_move;(conv=>lhs;whnf)<;>exact rfl)|(apply OKx_assign;(conv=>lhs;whnf)<;>exact rfl)|(apply OKx_ldB;exact rfl;(first | exact at0|exact at1|exact at2|exact at3|exact at4|exact at5|exact at6|exact at7);exact rfl)|(apply OKx_ldR;(conv=>lhs;whnf)<;>exact rfl;(with_reducible assumption))|(apply OKx_ldI;exact rfl;(first | exact at0|exact at1|exact at2|exact at3|exact at4|exact at5|exact at6|exact at7);omega)|(apply OKx_len;exact rfl)|(apply OKx_lenR;(conv=>lhs;whnf)<;>exact rfl;(with_reducible assumption))|(apply OKx_lenR2;(conv=>lhs;whnf)<;>exact rfl;(with_reducible assumption))|(apply OKx_lenO;(conv=>lhs;whnf)<;>exact rfl;(first | exact at0|exact at1|exact at2|exact at3|exact at4|exact at5|exact at6|exact at7))|(apply OKx_lss;exact rfl;exact rfl;all_goals (intro _; try (exfalso;omega)))|(apply OKx_idxO;exact rfl;exact rfl;omega)|(apply OKx_idxR;(conv=>lhs;whnf)<;>exact rfl;(with_reducible assumption);exact rfl;omega;intro _ _)|(apply OKx_idxOz;exact rfl;exact rfl;omega;omega)|(apply OKx_idxRz;(conv=>lhs;whnf)<;>exact rfl;(with_reducible assumption);exact rfl;omega;omega;intro _ _)|(apply OKx_inc;exact rfl;exact rfl;omega)|(apply OKx_addN;exact rfl;exact rfl;omega)|(apply OKx_add;exact rfl;exact rfl;omega;omega)|(apply OKx_notT;exact rfl)|(apply OKx_notF;exact rfl))
    refine ⟨y, [_], _, (by ((conv=>lhs;whnf)<;>exact rfl)), (by ((conv=>lhs;whnf)<;>exact rfl)), fun w hp => hyy w ((swapF J' (Res.box 22 g [sv] :: X) Br).use w hp), ?_⟩
    rintro _ _ ⟨rfl, J2, hJ2, rfl⟩
    refine OKx_ent (swapE J2 (Res.box 22 g [sv] :: X) Br) ?_
    simp only [List.cons_append, List.nil_append]
    repeat' (first|(apply OK_seq)|(apply thenQ_n)|(apply OK_region)|(apply OKx_nilK)|(apply OK_block)|(apply blockQ_n)|(apply blockQ_s)|(apply thenQ_e)|(apply blockQ_e;exact rfl)|(apply thenQ_r)|(apply blockQ_r)|(apply OK_condT;exact rfl)|(apply OK_condF;exact rfl)|(apply OK_skip)|(apply OK_exit)|(apply OK_ret)|(apply OKx_move;(conv=>lhs;whnf)<;>exact rfl)|(apply OKx_assign;(conv=>lhs;whnf)<;>exact rfl)|(apply OKx_ldB;exact rfl;(first | exact at0|exact at1|exact at2|exact at3|exact at4|exact at5|exact at6|exact at7);exact rfl)|(apply OKx_ldR;(conv=>lhs;whnf)<;>exact rfl;(with_reducible assumption))|(apply OKx_ldI;exact rfl;(first | exact at0|exact at1|exact at2|exact at3|exact at4|exact at5|exact at6|exact at7);omega)|(apply OKx_len;exact rfl)|(apply OKx_lenR;(conv=>lhs;whnf)<;>exact rfl;(with_reducible assumption))|(apply OKx_lenR2;(conv=>lhs;whnf)<;>exact rfl;(with_reducible assumption))|(apply OKx_lenO;(conv=>lhs;whnf)<;>exact rfl;(first | exact at0|exact at1|exact at2|exact at3|exact at4|exact at5|exact at6|exact at7))|(apply OKx_lss;exact rfl;exact rfl;all_goals (intro _; try (exfalso;omega)))|(apply OKx_idxO;exact rfl;exact rfl;omega)|(apply OKx_idxR;(conv=>lhs;whnf)<;>exact rfl;(with_reducible assumption);exact rfl;omega;intro _ _)|(apply OKx_idxOz;exact rfl;exact rfl;omega;omega)|(apply OKx_idxRz;(conv=>lhs;whnf)<;>exact rfl;(with_reducible assumption);exact rfl;omega;omega;intro _ _)|(apply OKx_inc;exact rfl;exact rfl;omega)|(apply OKx_addN;exact rfl;exact rfl;omega)|(apply OKx_add;exact rfl;exact rfl;omega;omega)|(apply OKx_notT;exact rfl)|(apply OKx_notF;exact rfl))
    refine ⟨by (repeat' (first | refine agree_upd rfl ?_ | exact agree_over | exact agree_refl _ _ | refine agree_over2 rfl ?_)), m - 1, _, by omega, Ent.refl _ _, ?_⟩
    exact ⟨k + 1, J2, by omega, rfl, by rw [htk]; exact hJ2, rfl⟩
  · obtain rfl : k = xs.length := by omega
    repeat' (first|(apply OK_seq)|(apply thenQ_n)|(apply OK_region)|(apply OKx_nilK)|(apply OK_block)|(apply blockQ_n)|(apply blockQ_s)|(apply thenQ_e)|(apply blockQ_e;exact rfl)|(apply thenQ_r)|(apply blockQ_r)|(apply OK_condT;exact rfl)|(apply OK_condF;exact rfl)|(apply OK_skip)|(apply OK_exit)|(apply OK_ret)|(apply OKx_move;(conv=>lhs;whnf)<;>exact rfl)|(apply OKx_assign;(conv=>lhs;whnf)<;>exact rfl)|(apply OKx_ldB;exact rfl;(first | exact at0|exact at1|exact at2|exact at3|exact at4|exact at5|exact at6|exact at7);exact rfl)|(apply OKx_ldR;(conv=>lhs;whnf)<;>exact rfl;(with_reducible assumption))|(apply OKx_ldI;exact rfl;(first | exact at0|exact at1|exact at2|exact at3|exact at4|exact at5|exact at6|exact at7);omega)|(apply OKx_len;exact rfl)|(apply OKx_lenR;(conv=>lhs;whnf)<;>exact rfl;(with_reducible assumption))|(apply OKx_lenR2;(conv=>lhs;whnf)<;>exact rfl;(with_reducible assumption))|(apply OKx_lenO;(conv=>lhs;whnf)<;>exact rfl;(first | exact at0|exact at1|exact at2|exact at3|exact at4|exact at5|exact at6|exact at7))|(apply OKx_lss;exact rfl;exact rfl;all_goals (intro _; try (exfalso;omega)))|(apply OKx_idxO;exact rfl;exact rfl;omega)|(apply OKx_idxR;(conv=>lhs;whnf)<;>exact rfl;(with_reducible assumption);exact rfl;omega;intro _ _)|(apply OKx_idxOz;exact rfl;exact rfl;omega;omega)|(apply OKx_idxRz;(conv=>lhs;whnf)<;>exact rfl;(with_reducible assumption);exact rfl;omega;omega;intro _ _)|(apply OKx_inc;exact rfl;exact rfl;omega)|(apply OKx_addN;exact rfl;exact rfl;omega)|(apply OKx_add;exact rfl;exact rfl;omega;omega)|(apply OKx_notT;exact rfl)|(apply OKx_notF;exact rfl))
    first | refine bodyQ_r0 ?_ | refine bodyQ_n0 ?_
    subst hR
    exact ⟨_, Ent.refl _ _, J', by rw [List.take_length] at hJ'; exact hJ', rfl⟩
theorem bodyM_e1 {P : Program} {n : Nat} {w0 : World} {F : Fm} {L : List Res} {ex : Exit} {r1 : ResultVar} {v1 : Value} {R : Value → List Res → Prop} (D : Nat) (hx : ex = .normal ∨ ex = .ret) (h1 : resIs P n F L r1 v1) (h : ∃ L', Ent w0 L L' ∧ R v1 L') (hm : marksV (F none) = [{ target := .collected D, args := #[] }]) : bodyM P n w0 [r1] R ex F (.mark D :: L) := by
  unfold bodyM
  obtain ⟨L', e, hR⟩ := h
  rcases hx with rfl | rfl <;> exact ⟨[D], [v1], L, L', hm, Ent.refl _ _, ⟨h1, trivial⟩, e, hR⟩
theorem upN1 (F : Fm) (i : Nat) (v : Value) : updo F (some i) v none = F none := rfl
theorem upN2 (F : Fm) (v : Value) : updo F none v none = F none := rfl
theorem SatL.monoE {P : Program} {f : FuncId} {args : List Value} {w0 : World} {L : List Res} {R R' : Value → List Res → Prop} (h : SatL P f args w0 L R) (hr : ∀ v L, R v L → ∃ L', Ent w0 L L' ∧ R' v L') : SatL P f args w0 L R' :=
  ⟨h.enters, fun w hp => (h.calls w hp).mono fun _ w' ⟨v, L1, h1, h2, h3⟩ => let ⟨L2, e, h4⟩ := hr v L1 h3; ⟨v, L2, h1, e.use w' h2, h4⟩⟩
theorem Ent.rot2 {w0 : World} (a b : Res) (Z : List Res) : Ent w0 (a :: b :: Z) (Z ++ [a, b]) := Ent.perm (by
  have h : ([a, b] ++ Z).Perm (Z ++ [a, b]) := List.perm_append_comm
  exact h)
structure Cg where
  (x : Int)
  (pre : List Int)
  (J : List Res)
def ColR (Z : List Res) (xs : List Int) (u : Value) (L : List Res) : Prop := ∃ a c, (0 < xs.length → ∃ g, a = some ⟨g, 0, none⟩) ∧ u = .slice a xs.length c ∧ L = .row 3 1 (.slice a xs.length c) xs.length (ints xs) :: Z
set_option maxRecDepth 100000 in
set_option maxHeartbeats 4000000 in
theorem appSeq_sat (f : FuncId) (caps : List Value) (Z : List Res) (xs : List Int) (w0 : World) (he : Enters' Tryz.prog f) (hI : IterI w0 f caps Z xs) (hl : xs.length ≤ 1000000) :
    SatL Tryz.prog 41 [.slice none 0 0, .func (.func f) #[] caps.toArray] w0 Z (ColR Z xs) := by
  refine SatL.ofM 13 [.tmp 4] Tryz.func41 (by kernel_rfl) (by kernel_rfl) rfl rfl rfl ?_
  repeat' (first|(apply OK_seq)|(apply thenQ_n)|(apply OK_region)|(apply OKx_nilK)|(apply OK_block)|(apply blockQ_n)|(apply blockQ_s)|(apply thenQ_e)|(apply blockQ_e;exact rfl)|(apply thenQ_r)|(apply blockQ_r)|(apply OK_condT;exact rfl)|(apply OK_condF;exact rfl)|(apply OK_skip)|(apply OK_exit)|(apply OK_ret)|(apply OKx_move;(conv=>lhs;whnf)<;>exact rfl)|(apply OKx_assign;(conv=>lhs;whnf)<;>exact rfl)|(apply OKx_ldB;exact rfl;(first | exact at0|exact at1|exact at2|exact at3|exact at4|exact at5|exact at6|exact at7);exact rfl)|(apply OKx_ldR;(conv=>lhs;whnf)<;>exact rfl;(with_reducible assumption))|(apply OKx_stB;exact rfl;(conv=>lhs;whnf)<;>exact rfl;exact rfl;exact rfl;(first | exact at0|exact at1|exact at2|exact at3|exact at4|exact at5|exact at6|exact at7);exact rfl;exact rfl;exact rfl)|(apply OKx_slit1;(conv=>lhs;whnf)<;>exact rfl;exact rfl;intro _)|(apply OKx_box1;(conv=>lhs;whnf)<;>exact rfl;exact rfl;intro _))
  rename_i g2
  refine OK_ent (L' := Z ++ [.row 3 1 (.slice none 0 0) 0 (ints []), .box 22 g2 [.slice none 0 0]]) ((Ent.mk fun w1 hp => hp.nil 3 1).trans (Ent.rot2 _ _ Z)) ?_
  obtain ⟨JP, hJP⟩ : ∃ JP : List Int → List Res → Prop, ∀ pre J, JP pre J ↔ (pre <+: xs ∧ ∃ a c, (0 < pre.length → ∃ g, a = some ⟨g, 0, none⟩) ∧ J = [.row 3 1 (.slice a pre.length c) pre.length (ints pre), .box 22 g2 [.slice a pre.length c]]) := ⟨_, fun _ _ => Iff.rfl⟩
  refine OK_rangeFunc (σ := Cg) (fun x => x.J ++ Z) (ps := [7]) (gf := f) (lb := caps) (by ((conv=>lhs;whnf)<;>exact rfl)) he
    (fun x av => av = [.int .i64 x.x] ∧ JP x.pre x.J ∧ (x.pre ++ [x.x]) <+: xs)
    (fun x _ X' => ∃ J', JP (x.pre ++ [x.x]) J' ∧ X' = J' ++ Z)
    (fun _ _ _ _ => False) (fun X' => ∃ J', JP xs J' ∧ X' = J' ++ Z) (fun _ _ => False) ?_ ?_ ?_ ?_ ?_
  · rintro x av ⟨rfl, _⟩
    rfl
  · intro y Br Bd hYy
    rw [List.append_assoc]
    refine (hI y Br JP ?_ _ ((hJP _ _).2 ⟨List.nil_prefix, none, 0, fun h => absurd h (by simp), rfl⟩)).monoE ?_
    · intro pre x J hJ hp
      refine (hYy ⟨x, pre, J⟩ [.int .i64 x] ⟨rfl, hJ, hp⟩).mono2 ?_
      rintro u L' (⟨rfl, X', ⟨J', hJ', rfl⟩, rfl⟩ | ⟨_, _, _, hF, _⟩)
      · exact ⟨rfl, J', hJ', rfl⟩
      · exact hF.elim
    · rintro u L' ⟨J', hJ', rfl⟩
      exact ⟨_, swapF J' Z Br, .inl ⟨J' ++ Z, ⟨J', hJ', rfl⟩, rfl⟩⟩
  · rintro ro B B' ⟨x, pre, J⟩ av ⟨rfl, hJ, hpre⟩
    dsimp only at *
    obtain ⟨hpr, a, c, ha, rfl⟩ := (hJP _ _).1 hJ
    have hpl : pre.length < xs.length := by
      have := hpre.length_le
      simp at this
      omega
    simp only [List.cons_append, List.nil_append]
    repeat' (first|(apply OKr_seq)|(apply thenQ_n)|(apply OKr_region;exact rfl)|(apply OKx_nilK)|(apply OKr_block)|(apply blockQ_n)|(apply blockQ_s)|(apply thenQ_e)|(apply blockQ_e;exact rfl)|(apply thenQ_r)|(apply blockQ_r)|(apply OKr_condT;exact rfl)|(apply OKr_condF;exact rfl)|(apply OKr_skip)|(apply OKr_exit)|(apply OKr_ret)|(apply OKx_move;(conv=>lhs;whnf)<;>exact rfl)|(apply OKx_assign;(conv=>lhs;whnf)<;>exact rfl)|(apply OKx_ldB;exact rfl;(first | exact at0|exact at1|exact at2|exact at3|exact at4|exact at5|exact at6|exact at7);exact rfl)|(apply OKx_ldR;(conv=>lhs;whnf)<;>exact rfl;(with_reducible assumption))|(apply OKx_stB;exact rfl;(conv=>lhs;whnf)<;>exact rfl;exact rfl;exact rfl;(first | exact at0|exact at1|exact at2|exact at3|exact at4|exact at5|exact at6|exact at7);exact rfl;exact rfl;exact rfl)|(apply OKx_slit1;(conv=>lhs;whnf)<;>exact rfl;exact rfl;intro _)|(apply OKx_box1;(conv=>lhs;whnf)<;>exact rfl;exact rfl;intro _))
    refine ⟨.row 3 1 (.slice a pre.length c) pre.length (ints pre) :: .box 22 g2 [.slice a pre.length c] :: Z, Ent.refl _ _, ?_⟩
    simp only [List.cons_append, List.nil_append]
    repeat' (first|(apply OKr_seq)|(apply thenQ_n)|(apply OKr_region;exact rfl)|(apply OKx_gb; refine OKx_appI 1 0 rfl rfl rfl rfl (by omega) (by omega) ?_; intro gA cA)|(apply OKx_nilK)|(apply OKr_block)|(apply blockQ_n)|(apply blockQ_s)|(apply thenQ_e)|(apply blockQ_e;exact rfl)|(apply thenQ_r)|(apply blockQ_r)|(apply OKr_condT;exact rfl)|(apply OKr_condF;exact rfl)|(apply OKr_skip)|(apply OKr_exit)|(apply OKr_ret)|(apply OKx_move;(conv=>lhs;whnf)<;>exact rfl)|(apply OKx_assign;(conv=>lhs;whnf)<;>exact rfl)|(apply OKx_ldB;exact rfl;(first | exact at0|exact at1|exact at2|exact at3|exact at4|exact at5|exact at6|exact at7);exact rfl)|(apply OKx_ldR;(conv=>lhs;whnf)<;>exact rfl;(with_reducible assumption))|(apply OKx_stB;exact rfl;(conv=>lhs;whnf)<;>exact rfl;exact rfl;exact rfl;(first | exact at0|exact at1|exact at2|exact at3|exact at4|exact at5|exact at6|exact at7);exact rfl;exact rfl;exact rfl)|(apply OKx_slit1;(conv=>lhs;whnf)<;>exact rfl;exact rfl;intro _)|(apply OKx_box1;(conv=>lhs;whnf)<;>exact rfl;exact rfl;intro _))
    refine ⟨.row 3 1 (.slice (some ⟨gA, 0, none⟩) (pre.length + 1) cA) (pre.length + 1) (ints (pre ++ [x])) :: .box 22 g2 [.slice (some ⟨gA, 0, none⟩) (pre.length + 1) cA] :: Z, Ent.sub (List.sublist_cons_self _ _), [_, _], (hJP _ _).2 ⟨hpre, some ⟨gA, 0, none⟩, cA, fun _ => ⟨gA, rfl⟩, ?_⟩, rfl⟩
    rw [List.length_append]
    rfl
  · rintro D X' ⟨J', hJ', rfl⟩
    obtain ⟨_, a, c, ha, rfl⟩ := (hJP _ _).1 hJ'
    simp only [List.cons_append, List.nil_append]
    repeat' (first|(apply OK_seq)|(apply thenQ_n)|(apply OK_region)|(apply OKx_nilK)|(apply OK_block)|(apply blockQ_n)|(apply blockQ_s)|(apply thenQ_e)|(apply blockQ_e;exact rfl)|(apply thenQ_r)|(apply blockQ_r)|(apply OK_condT;exact rfl)|(apply OK_condF;exact rfl)|(apply OK_skip)|(apply OK_exit)|(apply OK_ret)|(apply OKx_move;(conv=>lhs;whnf)<;>exact rfl)|(apply OKx_assign;(conv=>lhs;whnf)<;>exact rfl)|(apply OKx_ldB;exact rfl;(first | exact at0|exact at1|exact at2|exact at3|exact at4|exact at5|exact at6|exact at7);exact rfl)|(apply OKx_ldR;(conv=>lhs;whnf)<;>exact rfl;(with_reducible assumption))|(apply OKx_stB;exact rfl;(conv=>lhs;whnf)<;>exact rfl;exact rfl;exact rfl;(first | exact at0|exact at1|exact at2|exact at3|exact at4|exact at5|exact at6|exact at7);exact rfl;exact rfl;exact rfl)|(apply OKx_slit1;(conv=>lhs;whnf)<;>exact rfl;exact rfl;intro _)|(apply OKx_box1;(conv=>lhs;whnf)<;>exact rfl;exact rfl;intro _))
    exact bodyM_e1 D (by first | exact .inl rfl | exact .inr rfl) (resIs_tmp (by ((conv=>lhs;whnf)<;>exact rfl))) ⟨_, (Ent.sub (by exact (List.Sublist.refl (_ :: Z)).trans (List.Sublist.cons_cons _ (List.sublist_cons_self _ _)))), a, c, ha, rfl, rfl⟩ (by simp only [upN1, upN2, marks_push]; rfl)
  · rintro D c X' h
    exact h.elim
set_option maxRecDepth 100000 in
set_option maxHeartbeats 4000000 in
theorem collect_sat (f : FuncId) (caps : List Value) (Z : List Res) (xs : List Int) (w0 : World) (he : Enters' Tryz.prog f) (hI : IterI w0 f caps Z xs) (hl : xs.length ≤ 1000000) :
    SatL Tryz.prog 21 [.func (.func f) #[] caps.toArray] w0 Z (ColR Z xs) := by
  have hA := appSeq_sat f caps Z xs w0 he hI hl
  refine SatL.of 5 [2] Tryz.func21 (by kernel_rfl) (by kernel_rfl) rfl rfl rfl rfl ?_
  repeat' (first|(apply OK_seq)|(apply thenQ_n)|(apply OK_region)|(apply OKx_gc 41;exact rfl; refine OKx_callL (f := 41) rfl rfl hA ?_; rintro _ _ ⟨a, c, ha, rfl, rfl⟩)|(apply OKx_nilK)|(apply OK_block)|(apply blockQ_n)|(apply blockQ_s)|(apply thenQ_e)|(apply blockQ_e;exact rfl)|(apply thenQ_r)|(apply blockQ_r)|(apply OK_condT;exact rfl)|(apply OK_condF;exact rfl)|(apply OK_skip)|(apply OK_exit)|(apply OK_ret)|(apply OKx_move;(conv=>lhs;whnf)<;>exact rfl)|(apply OKx_assign;(conv=>lhs;whnf)<;>exact rfl))
  refine bodyQ_r1 (by ((conv=>lhs;whnf)<;>exact rfl)) ?_
  exact ⟨_, Ent.refl _ _, a, c, ha, rfl, rfl⟩
set_option maxRecDepth 100000 in
set_option maxHeartbeats 4000000 in
theorem sorted_it_sat (f : FuncId) (caps : List Value) (Z : List Res) (xs : List Int) (w0 : World) (he : Enters' Tryz.prog f) (hI : IterI w0 f caps Z xs) (hl : xs.length ≤ 1000000) (h0 : 0 < xs.length) :
    SatL Tryz.prog 8 [.func (.func f) #[] caps.toArray] w0 Z (fun u L => ∃ g c, u = .slice (some ⟨g, 0, none⟩) xs.length c ∧ L = .row 3 1 (.slice (some ⟨g, 0, none⟩) xs.length c) xs.length (ints (srtL xs)) :: Z) := by
  have hA := collect_sat f caps Z xs w0 he hI hl
  refine SatL.of 9 [2] Tryz.func8 (by kernel_rfl) (by kernel_rfl) rfl rfl rfl rfl ?_
  repeat' (first|(apply OK_seq)|(apply thenQ_n)|(apply OK_region)|(apply OKx_gc 21;exact rfl; refine OKx_callL (f := 21) rfl rfl hA ?_; rintro _ _ ⟨a, c, ha, rfl, rfl⟩; obtain ⟨ga, rfl⟩ := ha h0)|(apply OKx_gc 22;exact rfl; refine OKx_callL (f := 22) rfl rfl (sort_int_sat ga c xs.length xs _ _ 0 rfl rfl hl) ?_; rintro _ _ ⟨rfl, rfl⟩; rw [List.set_cons_zero])|(apply OKx_nilK)|(apply OK_block)|(apply blockQ_n)|(apply blockQ_s)|(apply thenQ_e)|(apply blockQ_e;exact rfl)|(apply thenQ_r)|(apply blockQ_r)|(apply OK_condT;exact rfl)|(apply OK_condF;exact rfl)|(apply OK_skip)|(apply OK_exit)|(apply OK_ret)|(apply OKx_move;(conv=>lhs;whnf)<;>exact rfl)|(apply OKx_assign;(conv=>lhs;whnf)<;>exact rfl))
  refine bodyQ_r1 (by ((conv=>lhs;whnf)<;>exact rfl)) ?_
  exact ⟨_, Ent.refl _ _, ga, c, rfl, rfl⟩
end Go.Proofs.YtpknpbeiifjmgaaGreat
