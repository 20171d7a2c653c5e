/-
  Part 16 of the proof: As39. No statement of the seat is proved here.
-/
import Derived.Test.YtdigdmnnjbndlaaGreatDoorMHTa3915
namespace Go.Proofs.YtdigdmnnjbndlaaGreatDoor
open Go.RowKit
def capsC (p5 p3 p8 p4 p9 : Nat) : List Value := [.pointer (some ⟨p5, 0, none⟩), .pointer (some ⟨p3, 0, none⟩), .pointer (some ⟨p8, 0, none⟩), .pointer (some ⟨p4, 0, none⟩), .pointer (some ⟨p9, 0, none⟩)]
def zC (p3 p4 p5 p8 p9 : Nat) (ef : Value) (ua : Option Addr) (un uc : Nat) (U : List Int) (va vn vc : Nat) (V : List Int) : List Res :=
  [.box 22 p5 [.slice ua un uc], .box 67 p3 [ef], .box 22 p4 [.slice (some ⟨va, 0, none⟩) vn vc], .box 137 p9 [.func (.func 139) #[] (capsC p5 p3 p8 p4 p9).toArray],
    .row 3 1 (.slice ua un uc) un (ints U), .row 3 1 (.slice (some ⟨va, 0, none⟩) vn vc) vn (ints V)]
def ChoR (N : Nat) (ov : Value) (p8 : Nat) (Z : List Res) (V us o : List Int) (JP : List (List Int) → List Res → Prop) (pre : List (List Int)) (u : Value) (L : List Res) : Prop :=
  u = .tuple #[] ∧ ∃ o' J', o'.length = N ∧ (∀ j, j < N → (j : Int) ∉ us → o'.getD j 0 = o.getD j 0) ∧ JP (pre ++ asgU V us o) J' ∧ L = rA ov N o' :: .box 22 p8 [ov] :: (Z ++ J')
set_option maxRecDepth 100000 in
set_option maxHeartbeats 4000000 in
set_option maxRecDepth 100000 in
set_option maxHeartbeats 4000000 in
theorem choose_sat (p3 p4 p5 p8 p9 fe : Nat) (ec : List Value) (ua : Option Addr) (un uc : Nat) (U : List Int) (va vn vc : Nat) (V : List Int) (N : Nat) (ov : Value) (w0 : World) (Val : List Int → Prop) (JP : List (List Int) → List Res → Prop)
    (hov : 0 < N → ∃ g c, ov = .slice (some ⟨g, 0, none⟩) N c) (hun : U.length = un) (hvn : V.length = vn) (hN8 : N ≤ 1000) (hun8 : un ≤ 1000) (hvn8 : vn ≤ 1000) (hua : 0 < un → ∃ g, ua = some ⟨g, 0, none⟩) (hU : ∀ u ∈ U, 0 ≤ u ∧ u.toNat < N)
    (hy : ∀ o pre J, o.length = N → Val o → JP pre J → SatL Tryz.prog fe (ov :: ec) w0 (rA ov N o :: .box 22 p8 [ov] :: (zC p3 p4 p5 p8 p9 (.func (.func fe) #[] ec.toArray) ua un uc U va vn vc V ++ J))
      (fun u L => u = .tuple #[] ∧ ∃ J', JP (pre ++ [o]) J' ∧ L = rA ov N o :: .box 22 p8 [ov] :: (zC p3 p4 p5 p8 p9 (.func (.func fe) #[] ec.toArray) ua un uc U va vn vc V ++ J'))) :
    ∀ us k o pre J, U.drop k = us → k ≤ un → o.length = N → (∀ a ∈ asgU V us o, Val a) → JP pre J →
      SatL Tryz.prog 139 (.int .i64 (k : Int) :: capsC p5 p3 p8 p4 p9) w0 (rA ov N o :: .box 22 p8 [ov] :: (zC p3 p4 p5 p8 p9 (.func (.func fe) #[] ec.toArray) ua un uc U va vn vc V ++ J))
        (ChoR N ov p8 (zC p3 p4 p5 p8 p9 (.func (.func fe) #[] ec.toArray) ua un uc U va vn vc V) V us o JP pre) := by
  intro us
  induction us with
  | nil =>
    intro k o pre J hk hku ho hval hJ
    have hkl := List.drop_eq_nil_iff.1 hk
    obtain rfl : k = un := by omega
    have hy := hy o pre J ho (hval o (by simp [asgU])) hJ
    simp only [capsC, rA] at *
    generalize hZ : ChoR _ _ _ _ _ _ _ _ _ = R
    generalize hE : (Value.func (.func fe) #[] ec.toArray) = ef at *
    simp only [zC, List.cons_append, List.nil_append] at *
    subst hE
    refine SatL.of 34 [] Tryz.func139 (by kernel_rfl) (by kernel_rfl) rfl rfl rfl rfl ?_
    repeat' (first|(apply OK_seq)|(apply thenQ_n)|(apply OK_region)|(refine OKx_callL (f := fe) rfl (by simp only [List.toList_toArray];exact rfl) hy ?_; rintro _ _ ⟨rfl, J', hJ', rfl⟩)|(refine OK_rid 5 ?_; refine OK_mix [] [0, 1, 2, 3, 4, 5, 6] [] [7] [] (id := 5) (by kernel_rfl) (by kernel_rfl) rfl (Ent.nil) (by ((try simp only [pickO]) <;> exact rfl)) (by ((try simp only [pickO, nthO, List.cons_append, List.nil_append]) <;> exact rfl)) (by ((try simp only [pickO]) <;> exact rfl)) (by ((try simp only [pickO, nthO, List.cons_append, List.nil_append]) <;> exact rfl)) ?_)|(apply OKx_nilK)|(apply OK_block)|(apply blockQ_n)|(apply blockQ_s)|(apply thenQ_e)|(apply blockQ_e;exact rfl)|(apply thenQ_r)|(apply blockQ_r)|(apply OK_condT;exact rfl)|(apply OK_condF;exact rfl)|(apply OK_skip)|(apply OK_exit)|(apply OK_ret)|(apply OKx_move;(conv=>lhs;whnf)<;>exact rfl)|(apply OKx_assign;(conv=>lhs;whnf)<;>exact rfl)|(apply OKx_ldB;exact rfl;(first | exact at0|exact at1|exact at2|exact at3|exact at4|exact at5|exact at6|exact at7);exact rfl)|(apply OKx_ldR;(conv=>lhs;whnf)<;>exact rfl;(with_reducible assumption))|(apply OKx_ldI;exact rfl;(first | exact at0|exact at1|exact at2|exact at3|exact at4|exact at5|exact at6|exact at7);omega)|(apply OKx_len;exact rfl)|(apply OKx_lenR;(conv=>lhs;whnf)<;>exact rfl;(with_reducible assumption))|(apply OKx_lenR2;(conv=>lhs;whnf)<;>exact rfl;(with_reducible assumption))|(apply OKx_lenO;(conv=>lhs;whnf)<;>exact rfl;(first | exact at0|exact at1|exact at2|exact at3|exact at4|exact at5|exact at6|exact at7))|(apply OKx_lss;exact rfl;exact rfl;all_goals (intro _; try (exfalso;omega)))|(apply OKx_eql;exact rfl;exact rfl;all_goals (intro _; try (exfalso;omega)))|(apply OKx_idxO;exact rfl;exact rfl;omega)|(apply OKx_idxR;(conv=>lhs;whnf)<;>exact rfl;(with_reducible assumption);exact rfl;omega;intro _ _)|(apply OKx_idxOz;exact rfl;exact rfl;omega;omega)|(apply OKx_idxRz;(conv=>lhs;whnf)<;>exact rfl;(with_reducible assumption);exact rfl;omega;omega;intro _ _)|(apply OKx_inc;exact rfl;exact rfl;omega)|(apply OKx_addN;exact rfl;exact rfl;omega)|(apply OKx_add;exact rfl;exact rfl;omega;omega)|(apply OKx_stI;exact rfl;exact rfl;(first | exact at0|exact at1|exact at2|exact at3|exact at4|exact at5|exact at6|exact at7);omega;exact rfl)|(apply OKx_stB;exact rfl;(conv=>lhs;whnf)<;>exact rfl;exact rfl;exact rfl;(first | exact at0|exact at1|exact at2|exact at3|exact at4|exact at5|exact at6|exact at7);exact rfl;exact rfl;exact rfl))
    first | refine bodyQ_r0 ?_ | refine bodyQ_n0 ?_
    subst hZ
    refine ⟨_, Ent.refl _ _, rfl, o, J', ho, fun j hj _ => rfl, by simpa [asgU] using hJ', rfl⟩
  | cons u us ih =>
    intro k o pre J hk hku ho hval hJ
    have hkl : k < U.length := by
      rcases Nat.lt_or_ge k U.length with h | h
      · exact h
      · rw [List.drop_eq_nil_iff.2 h] at hk; cases hk
    have hku2 : U.getD k 0 = u ∧ U.drop (k + 1) = us := by
      rw [List.drop_eq_getElem_cons hkl] at hk
      simp only [List.cons.injEq] at hk
      exact ⟨by rw [getD_lt _ _ _ hkl]; exact hk.1, hk.2⟩
    obtain ⟨hu, hdr⟩ := hku2
    have hu0 := hU u (by rw [← hu]; exact getD_mem U k 0 hkl)
    have hus : ∀ x ∈ us, 0 ≤ x := fun x hx => (hU x (by rw [← hdr] at hx; exact List.mem_of_mem_drop hx)).1
    obtain ⟨gu, rfl⟩ := hua (by omega)
    obtain ⟨go, co, rfl⟩ := hov (by omega)
    have ihk := ih (k + 1)
    clear ih hy
    simp only [capsC, rA] at *
    generalize hZ : ChoR _ _ _ _ _ _ _ _ _ = R
    generalize hE : (Value.func (.func fe) #[] ec.toArray) = ef at *
    simp only [zC, List.cons_append, List.nil_append] at *
    refine SatL.of 34 [] Tryz.func139 (by kernel_rfl) (by kernel_rfl) rfl rfl rfl rfl ?_
    repeat' (first|(apply OK_seq)|(apply thenQ_n)|(apply OK_region)|(refine OK_rid 5 ?_; refine OK_mix [] [0, 1, 2, 3, 4, 5, 6] [] [7] [] (id := 5) (by kernel_rfl) (by kernel_rfl) rfl (Ent.nil) (by ((try simp only [pickO]) <;> exact rfl)) (by ((try simp only [pickO, nthO, List.cons_append, List.nil_append]) <;> exact rfl)) (by ((try simp only [pickO]) <;> exact rfl)) (by ((try simp only [pickO, nthO, List.cons_append, List.nil_append]) <;> exact rfl)) ?_)|(apply OKx_nilK)|(apply OK_block)|(apply blockQ_n)|(apply blockQ_s)|(apply thenQ_e)|(apply blockQ_e;exact rfl)|(apply thenQ_r)|(apply blockQ_r)|(apply OK_condT;exact rfl)|(apply OK_condF;exact rfl)|(apply OK_skip)|(apply OK_exit)|(apply OK_ret)|(apply OKx_move;(conv=>lhs;whnf)<;>exact rfl)|(apply OKx_assign;(conv=>lhs;whnf)<;>exact rfl)|(apply OKx_ldB;exact rfl;(first | exact at0|exact at1|exact at2|exact at3|exact at4|exact at5|exact at6|exact at7);exact rfl)|(apply OKx_ldR;(conv=>lhs;whnf)<;>exact rfl;(with_reducible assumption))|(apply OKx_ldI;exact rfl;(first | exact at0|exact at1|exact at2|exact at3|exact at4|exact at5|exact at6|exact at7);omega)|(apply OKx_len;exact rfl)|(apply OKx_lenR;(conv=>lhs;whnf)<;>exact rfl;(with_reducible assumption))|(apply OKx_lenR2;(conv=>lhs;whnf)<;>exact rfl;(with_reducible assumption))|(apply OKx_lenO;(conv=>lhs;whnf)<;>exact rfl;(first | exact at0|exact at1|exact at2|exact at3|exact at4|exact at5|exact at6|exact at7))|(apply OKx_lss;exact rfl;exact rfl;all_goals (intro _; try (exfalso;omega)))|(apply OKx_eql;exact rfl;exact rfl;all_goals (intro _; try (exfalso;omega)))|(apply OKx_idxO;exact rfl;exact rfl;omega)|(apply OKx_idxR;(conv=>lhs;whnf)<;>exact rfl;(with_reducible assumption);exact rfl;omega;intro _ _)|(apply OKx_idxOz;exact rfl;exact rfl;omega;omega)|(apply OKx_idxRz;(conv=>lhs;whnf)<;>exact rfl;(with_reducible assumption);exact rfl;omega;omega;intro _ _)|(apply OKx_inc;exact rfl;exact rfl;omega)|(apply OKx_addN;exact rfl;exact rfl;omega)|(apply OKx_add;exact rfl;exact rfl;omega;omega)|(apply OKx_stI;exact rfl;exact rfl;(first | exact at0|exact at1|exact at2|exact at3|exact at4|exact at5|exact at6|exact at7);omega;exact rfl)|(apply OKx_stB;exact rfl;(conv=>lhs;whnf)<;>exact rfl;exact rfl;exact rfl;(first | exact at0|exact at1|exact at2|exact at3|exact at4|exact at5|exact at6|exact at7);exact rfl;exact rfl;exact rfl))
    refine OK_loop1 18 [8, 18, 19, 20, 21, 22, 23, 24, 25, 26, 27, 28, 29, 30, 31, 32, 33] (fun m v L => ∃ (q : Nat) (o' : List Int) (J' : List Res), q + m = vn ∧ v = .int .i64 (q : Int) ∧ o'.length = N ∧ (∀ j, j < N → (j : Int) ∉ u :: us → o'.getD j 0 = o.getD j 0) ∧ JP (pre ++ (V.take q).flatMap (fun v => asgU V us (o.set u.toNat v))) J' ∧
      L = .row 3 1 (.slice (some ⟨go, 0, none⟩) N co) N (ints o') :: .box 22 p8 [.slice (some ⟨go, 0, none⟩) N co] :: .box 22 p5 [.slice (some ⟨gu, 0, none⟩) un uc] :: .box 67 p3 [ef] :: .box 22 p4 [.slice (some ⟨va, 0, none⟩) vn vc] ::
        .box 137 p9 [.func (.func 139) #[] #[.pointer (some ⟨p5, 0, none⟩), .pointer (some ⟨p3, 0, none⟩), .pointer (some ⟨p8, 0, none⟩), .pointer (some ⟨p4, 0, none⟩), .pointer (some ⟨p9, 0, none⟩)]] :: .row 3 1 (.slice (some ⟨gu, 0, none⟩) un uc) un (ints U) :: .row 3 1 (.slice (some ⟨va, 0, none⟩) vn vc) vn (ints V) :: J') vn _ (Ent.refl _ _) ⟨0, o, J, by omega, rfl, ho, fun j hj _ => rfl, by simpa using hJ, rfl⟩ ?_
    rintro m v L G ⟨q, o', J', hq, rfl, ho', hoff, hJ', rfl⟩
    by_cases hqv : q < vn
    · have hstep : (V.take (q + 1)).flatMap (fun v => asgU V us (o.set u.toNat v)) = (V.take q).flatMap (fun v => asgU V us (o.set u.toNat v)) ++ asgU V us (o.set u.toNat (V.getD q 0)) := by
        rw [List.take_succ_eq_append_getElem (by omega), List.flatMap_append, getD_lt _ _ _ (show q < V.length by omega)]
        simp
      have hsame : asgU V us (o'.set u.toNat (V.getD q 0)) = asgU V us (o.set u.toNat (V.getD q 0)) := by
        refine asgU_off V us _ _ hus (by simp [ho, ho']) (fun j hj hn => ?_)
        rw [List.length_set] at hj
        rw [setI_getD _ _ _ _ hj, setI_getD _ _ _ _ (by omega)]
        split
        · rfl
        · rename_i hne
          refine hoff j (by omega) ?_
          rw [List.mem_cons]
          exact fun e2 => e2.elim (fun e2 => hne (by omega)) hn
      have hcall := ihk (o'.set u.toNat (V.getD q 0)) (pre ++ (V.take q).flatMap (fun v => asgU V us (o.set u.toNat v))) J' hdr (by omega) (by simpa using ho') (fun a ha => by
        rw [hsame] at ha
        refine hval a ?_
        unfold asgU
        exact List.mem_flatMap.2 ⟨_, getD_mem V q 0 (by omega), ha⟩) hJ'
      rw [← hu] at hcall
      repeat' (first|(apply OK_seq)|(apply thenQ_n)|(apply OK_region)|(apply OKx_gc 139;exact rfl; refine OKx_callL (f := 139) rfl rfl hcall ?_; rintro _ _ ⟨rfl, o2, J2, h1, h2, h3, rfl⟩)|(refine OK_rid 5 ?_; refine OK_mix [] [0, 1, 2, 3, 4, 5, 6] [] [7] [] (id := 5) (by kernel_rfl) (by kernel_rfl) rfl (Ent.nil) (by ((try simp only [pickO]) <;> exact rfl)) (by ((try simp only [pickO, nthO, List.cons_append, List.nil_append]) <;> exact rfl)) (by ((try simp only [pickO]) <;> exact rfl)) (by ((try simp only [pickO, nthO, List.cons_append, List.nil_append]) <;> exact rfl)) ?_)|(apply OKx_nilK)|(apply OK_block)|(apply blockQ_n)|(apply blockQ_s)|(apply thenQ_e)|(apply blockQ_e;exact rfl)|(apply thenQ_r)|(apply blockQ_r)|(apply OK_condT;exact rfl)|(apply OK_condF;exact rfl)|(apply OK_skip)|(apply OK_exit)|(apply OK_ret)|(apply OKx_move;(conv=>lhs;whnf)<;>exact rfl)|(apply OKx_assign;(conv=>lhs;whnf)<;>exact rfl)|(apply OKx_ldB;exact rfl;(first | exact at0|exact at1|exact at2|exact at3|exact at4|exact at5|exact at6|exact at7);exact rfl)|(apply OKx_ldR;(conv=>lhs;whnf)<;>exact rfl;(with_reducible assumption))|(apply OKx_ldI;exact rfl;(first | exact at0|exact at1|exact at2|exact at3|exact at4|exact at5|exact at6|exact at7);omega)|(apply OKx_len;exact rfl)|(apply OKx_lenR;(conv=>lhs;whnf)<;>exact rfl;(with_reducible assumption))|(apply OKx_lenR2;(conv=>lhs;whnf)<;>exact rfl;(with_reducible assumption))|(apply OKx_lenO;(conv=>lhs;whnf)<;>exact rfl;(first | exact at0|exact at1|exact at2|exact at3|exact at4|exact at5|exact at6|exact at7))|(apply OKx_lss;exact rfl;exact rfl;all_goals (intro _; try (exfalso;omega)))|(apply OKx_eql;exact rfl;exact rfl;all_goals (intro _; try (exfalso;omega)))|(apply OKx_idxO;exact rfl;exact rfl;omega)|(apply OKx_idxR;(conv=>lhs;whnf)<;>exact rfl;(with_reducible assumption);exact rfl;omega;intro _ _)|(apply OKx_idxOz;exact rfl;exact rfl;omega;omega)|(apply OKx_idxRz;(conv=>lhs;whnf)<;>exact rfl;(with_reducible assumption);exact rfl;omega;omega;intro _ _)|(apply OKx_inc;exact rfl;exact rfl;omega)|(apply OKx_addN;exact rfl;exact rfl;omega)|(apply OKx_add;exact rfl;exact rfl;omega;omega)|(apply OKx_stI;exact rfl;exact rfl;(first | exact at0|exact at1|exact at2|exact at3|exact at4|exact at5|exact at6|exact at7);omega;exact rfl)|(apply OKx_stB;exact rfl;(conv=>lhs;whnf)<;>exact rfl;exact rfl;exact rfl;(first | exact at0|exact at1|exact at2|exact at3|exact at4|exact at5|exact at6|exact at7);exact rfl;exact rfl;exact rfl))
      refine ⟨by (repeat' (first | refine agree_upd rfl ?_ | exact agree_over | exact agree_refl _ _ | refine agree_over2 rfl ?_)), m - 1, _, by omega, Ent.refl _ _, ?_⟩
      refine ⟨q + 1, o2, J2, by omega, rfl, h1, fun j hj hn => ?_, by rw [hstep, ← List.append_assoc, ← hsame, ← hu]; exact h3, rfl⟩
      rw [List.mem_cons] at hn
      rw [h2 j hj (fun e => hn (.inr e)), hu, setI_getD _ _ _ _ (by omega), if_neg (fun e => hn (.inl (by omega)))]
      exact hoff j hj (by rw [List.mem_cons]; exact hn)
    · obtain rfl : q = vn := by omega
      repeat' (first|(apply OK_seq)|(apply thenQ_n)|(apply OK_region)|(refine OK_rid 5 ?_; refine OK_mix [] [0, 1, 2, 3, 4, 5, 6] [] [7] [] (id := 5) (by kernel_rfl) (by kernel_rfl) rfl (Ent.nil) (by ((try simp only [pickO]) <;> exact rfl)) (by ((try simp only [pickO, nthO, List.cons_append, List.nil_append]) <;> exact rfl)) (by ((try simp only [pickO]) <;> exact rfl)) (by ((try simp only [pickO, nthO, List.cons_append, List.nil_append]) <;> exact rfl)) ?_)|(apply OKx_nilK)|(apply OK_block)|(apply blockQ_n)|(apply blockQ_s)|(apply thenQ_e)|(apply blockQ_e;exact rfl)|(apply thenQ_r)|(apply blockQ_r)|(apply OK_condT;exact rfl)|(apply OK_condF;exact rfl)|(apply OK_skip)|(apply OK_exit)|(apply OK_ret)|(apply OKx_move;(conv=>lhs;whnf)<;>exact rfl)|(apply OKx_assign;(conv=>lhs;whnf)<;>exact rfl)|(apply OKx_ldB;exact rfl;(first | exact at0|exact at1|exact at2|exact at3|exact at4|exact at5|exact at6|exact at7);exact rfl)|(apply OKx_ldR;(conv=>lhs;whnf)<;>exact rfl;(with_reducible assumption))|(apply OKx_ldI;exact rfl;(first | exact at0|exact at1|exact at2|exact at3|exact at4|exact at5|exact at6|exact at7);omega)|(apply OKx_len;exact rfl)|(apply OKx_lenR;(conv=>lhs;whnf)<;>exact rfl;(with_reducible assumption))|(apply OKx_lenR2;(conv=>lhs;whnf)<;>exact rfl;(with_reducible assumption))|(apply OKx_lenO;(conv=>lhs;whnf)<;>exact rfl;(first | exact at0|exact at1|exact at2|exact at3|exact at4|exact at5|exact at6|exact at7))|(apply OKx_lss;exact rfl;exact rfl;all_goals (intro _; try (exfalso;omega)))|(apply OKx_eql;exact rfl;exact rfl;all_goals (intro _; try (exfalso;omega)))|(apply OKx_idxO;exact rfl;exact rfl;omega)|(apply OKx_idxR;(conv=>lhs;whnf)<;>exact rfl;(with_reducible assumption);exact rfl;omega;intro _ _)|(apply OKx_idxOz;exact rfl;exact rfl;omega;omega)|(apply OKx_idxRz;(conv=>lhs;whnf)<;>exact rfl;(with_reducible assumption);exact rfl;omega;omega;intro _ _)|(apply OKx_inc;exact rfl;exact rfl;omega)|(apply OKx_addN;exact rfl;exact rfl;omega)|(apply OKx_add;exact rfl;exact rfl;omega;omega)|(apply OKx_stI;exact rfl;exact rfl;(first | exact at0|exact at1|exact at2|exact at3|exact at4|exact at5|exact at6|exact at7);omega;exact rfl)|(apply OKx_stB;exact rfl;(conv=>lhs;whnf)<;>exact rfl;exact rfl;exact rfl;(first | exact at0|exact at1|exact at2|exact at3|exact at4|exact at5|exact at6|exact at7);exact rfl;exact rfl;exact rfl))
      first | refine bodyQ_r0 ?_ | refine bodyQ_n0 ?_
      subst hZ
      rw [← hvn, List.take_length] at hJ'
      exact ⟨_, Ent.refl _ _, rfl, o', J', ho', hoff, hJ', rfl⟩
theorem SatL.post {P : Program} {f : FuncId} {args : List Value} {w0 : World} {L : List Res} {R R' : Value → List Res → Prop} (h : SatL P f args w0 L R) (hr : ∀ v L', R v L' → ∃ L'', Ent w0 L' L'' ∧ R' v L'') : SatL P f args w0 L R' :=
  ⟨h.enters, fun w hp => (h.calls w hp).mono fun e w' ⟨v, L', h1, h2, h3⟩ => by
    obtain ⟨L'', e', h4⟩ := hr v L' h3
    exact ⟨v, L'', h1, e'.use _ h2, h4⟩⟩
theorem swapZ {w0 : World} (a b : Res) (J Z : List Res) : Ent w0 (a :: b :: (Z ++ J)) (a :: b :: (J ++ Z)) := Ent.perm (List.Perm.cons _ (List.Perm.cons _ List.perm_append_comm))
theorem knw_nil {st : List Int} (h : (knwL st st.length).length = 0) : knw st = [0] := if_pos (List.eq_nil_of_length_eq_zero h)
theorem knw_cons {st : List Int} (h : (knwL st st.length).length ≠ 0) : knw st = knwL st st.length := if_neg (fun e => h (by rw [e]; rfl))
set_option maxRecDepth 100000 in
set_option maxHeartbeats 4000000 in
theorem asgA_sat (fe : Nat) (ec : List Value) (sv : Value) (st : List Int) (w0 : World) (J0 : List Res) (JP : List (List Int) → List Res → Prop) (hs : Ints w0 sv st) (hN8 : st.length ≤ 1000) (hJ : JP [] J0)
    (hy : ∀ ov p8 Z o pre J, (0 < st.length → ∃ g c, ov = .slice (some ⟨g, 0, none⟩) st.length c) → o.length = st.length → o ∈ asgH st → JP pre J → SatL Tryz.prog fe (ov :: ec) w0 (rA ov st.length o :: .box 22 p8 [ov] :: (J ++ Z)) (fun u L => u = .tuple #[] ∧ ∃ J', JP (pre ++ [o]) J' ∧ L = rA ov st.length o :: .box 22 p8 [ov] :: (J' ++ Z))) :
    SatL Tryz.prog 107 [sv, .func (.func fe) #[] ec.toArray] w0 J0 (fun u L => u = .tuple #[] ∧ JP (asgH st) L) := by
  have hsv := hs.sl
  have hsi := hs
  have hcl : ∀ w1, Below w0.heap.size w0 w1 → Sat Tryz.prog 91 [sv] w1 _ := fun w1 hb => cloneI_sat sv st w1 (hs.below hb) (by omega)
  have hch : ∀ p3 p4 p5 p8 p9 ua uc va vn vc ov, (0 < st.length → ∃ g c, ov = .slice (some ⟨g, 0, none⟩) st.length c) → (knw st).length = vn → (0 < (unkL st st.length).length → ∃ g, ua = some ⟨g, 0, none⟩) →
      SatL Tryz.prog 139 (.int .i64 ((0 : Nat) : Int) :: capsC p5 p3 p8 p4 p9) w0 (rA ov st.length st :: .box 22 p8 [ov] :: (zC p3 p4 p5 p8 p9 (.func (.func fe) #[] ec.toArray) ua (unkL st st.length).length uc (unkL st st.length) va vn vc (knw st) ++ J0))
        (fun u L => u = .tuple #[] ∧ JP (asgH st) L) := fun p3 p4 p5 p8 p9 ua uc va vn vc ov hov hvn hua => by
    have hkl := knwL_len st st.length
    have hkn : vn ≤ 1000 := by
      rw [← hvn]; unfold knw
      split
      · simp
      · omega
    refine (choose_sat p3 p4 p5 p8 p9 fe ec ua _ uc (unkL st st.length) va vn vc (knw st) st.length ov w0 (fun a => a ∈ asgH st) JP hov rfl hvn hN8 (by have := unkL_len st st.length;omega) hkn hua (unkL_nat st st.length)
      (fun o pre J ho hv hJ => ((hy ov p8 _ o pre J hov ho hv hJ).pre (swapZ _ _ _ _)).post (fun v L' ⟨h1, J', h2, h3⟩ => ⟨_, by rw [h3]; exact swapZ _ _ _ _, h1, J', h2, rfl⟩)) (unkL st st.length) 0 st [] J0 rfl (Nat.zero_le _) rfl (fun a ha => ha) hJ).post ?_
    rintro v L' ⟨h1, o', J', _, _, h2, rfl⟩
    exact ⟨J', Ent.sub (((List.sublist_append_right _ _).cons _).cons _), h1, by rw [List.nil_append] at h2; exact h2⟩
  refine SatL.of 41 [] Tryz.func107 (by kernel_rfl) (by kernel_rfl) rfl rfl rfl rfl ?_
  repeat' (first|(apply OK_seq)|(apply thenQ_n)|(apply OK_region)|(apply OKx_nilK)|(apply OK_block)|(apply blockQ_n)|(apply blockQ_s)|(apply thenQ_e)|(apply blockQ_e;exact rfl)|(apply thenQ_r)|(apply blockQ_r)|(apply OK_condT;exact rfl)|(apply OK_condF;exact rfl)|(apply OK_skip)|(apply OK_exit)|(apply OK_ret)|(apply OKx_move;(conv=>lhs;whnf)<;>exact rfl)|(apply OKx_assign;(conv=>lhs;whnf)<;>exact rfl)|(apply OKx_ldB;exact rfl;(first | exact at0|exact at1|exact at2|exact at3|exact at4|exact at5|exact at6|exact at7);exact rfl)|(apply OKx_ldR;(conv=>lhs;whnf)<;>exact rfl;(with_reducible assumption))|(apply OKx_ldI;exact rfl;(first | exact at0|exact at1|exact at2|exact at3|exact at4|exact at5|exact at6|exact at7);omega)|(apply OKx_len;exact rfl)|(apply OKx_lenR;(conv=>lhs;whnf)<;>exact rfl;(with_reducible assumption))|(apply OKx_lenR2;(conv=>lhs;whnf)<;>exact rfl;(with_reducible assumption))|(apply OKx_lenO;(conv=>lhs;whnf)<;>exact rfl;(first | exact at0|exact at1|exact at2|exact at3|exact at4|exact at5|exact at6|exact at7))|(apply OKx_lss;exact rfl;exact rfl;all_goals (intro _; try (exfalso;omega)))|(apply OKx_eql;exact rfl;exact rfl;all_goals (intro _; try (exfalso;omega)))|(apply OKx_idxO;exact rfl;exact rfl;omega)|(apply OKx_idxR;(conv=>lhs;whnf)<;>exact rfl;(with_reducible assumption);exact rfl;omega;intro _ _)|(apply OKx_idxOz;exact rfl;exact rfl;omega;omega)|(apply OKx_idxRz;(conv=>lhs;whnf)<;>exact rfl;(with_reducible assumption);exact rfl;omega;omega;intro _ _)|(apply OKx_inc;exact rfl;exact rfl;omega)|(apply OKx_addN;exact rfl;exact rfl;omega)|(apply OKx_add;exact rfl;exact rfl;omega;omega)|(apply OKx_notT;exact rfl)|(apply OKx_notF;exact rfl)|(apply OKx_alloc1;intro _)|(apply OKx_stB;exact rfl;(conv=>lhs;whnf)<;>exact rfl;exact rfl;exact rfl;(first | exact at0|exact at1|exact at2|exact at3|exact at4|exact at5|exact at6|exact at7);exact rfl;exact rfl;exact rfl)|(apply OKx_slit1;(conv=>lhs;whnf)<;>exact rfl;exact rfl;intro _)|(apply OKx_box1;(conv=>lhs;whnf)<;>exact rfl;exact rfl;intro _)|(apply OKx_func;exact rfl;exact rfl))
  rename_i p3 p4 p5
  refine OK_loop1 12 [6, 7, 12, 13, 14, 15, 16, 17, 18, 19, 20, 21, 22, 23, 24, 25, 26, 27, 28, 29, 30, 31] (fun m v L => ∃ (k un vn : Nat) (ua : Option Addr) (uc : Nat) (va : Option Addr) (vc : Nat), k + m = st.length ∧ v = .int .i64 (k : Int) ∧ un = (unkL st k).length ∧ vn = (knwL st k).length ∧ (0 < un → ∃ g, ua = some ⟨g, 0, none⟩) ∧ (0 < vn → ∃ g, va = some ⟨g, 0, none⟩) ∧
    L = .row 3 1 (.slice ua un uc) un (ints (unkL st k)) :: .row 3 1 (.slice va vn vc) vn (ints (knwL st k)) :: .box 22 p5 [.slice ua un uc] :: .box 22 p4 [.slice va vn vc] :: .box 67 p3 [.func (.func fe) #[] ec.toArray] :: J0) st.length _
    (Ent.mk fun w1 hp => (hp.nil 3 1).nil 3 1) ⟨0, 0, 0, none, 0, none, 0, by omega, rfl, rfl, rfl, fun h => absurd h (by omega), fun h => absurd h (by omega), rfl⟩ ?_
  rintro m v L G ⟨k, un, vn, ua, uc, va, vc, hm, rfl, hun, hvn, hua, hva, rfl⟩
  have hul := unkL_len st k
  have hkl := knwL_len st k
  by_cases hk : k < st.length
  · have hus := unkL_step st k
    have hks : knwL st (k + 1) = knwL st k ++ if st.getD k 0 < 0 ∨ hasI (knwL st k) (st.getD k 0) = true then [] else [st.getD k 0] := rfl
    generalize hU : unkL st k = U at *
    generalize hV : knwL st k = V at *
    repeat' (first|(apply OK_seq)|(apply thenQ_n)|(apply OK_region)|(apply OKx_gc 35;exact rfl; refine OKx_callB (f := 35) (b := hasI V (st.getD k 0)) rfl rfl rfl (fun w1 hp => contains_int_sat _ V _ w1 (hp.ints 1 rfl (by omega))) ?_ ?_ <;> intro hq)|(apply OKx_gb; refine OKx_appI 1 0 rfl rfl rfl rfl (by omega) (by omega) ?_; intro g5 c5)|(apply OKx_gb; refine OKx_appI 2 0 rfl rfl rfl rfl (by omega) (by omega) ?_; intro g5 c5)|(apply OKx_nilK)|(apply OK_block)|(apply blockQ_n)|(apply blockQ_s)|(apply thenQ_e)|(apply blockQ_e;exact rfl)|(apply thenQ_r)|(apply blockQ_r)|(apply OK_condT;exact rfl)|(apply OK_condF;exact rfl)|(apply OK_skip)|(apply OK_exit)|(apply OK_ret)|(apply OKx_move;(conv=>lhs;whnf)<;>exact rfl)|(apply OKx_assign;(conv=>lhs;whnf)<;>exact rfl)|(apply OKx_ldB;exact rfl;(first | exact at0|exact at1|exact at2|exact at3|exact at4|exact at5|exact at6|exact at7);exact rfl)|(apply OKx_ldR;(conv=>lhs;whnf)<;>exact rfl;(with_reducible assumption))|(apply OKx_ldI;exact rfl;(first | exact at0|exact at1|exact at2|exact at3|exact at4|exact at5|exact at6|exact at7);omega)|(apply OKx_len;exact rfl)|(apply OKx_lenR;(conv=>lhs;whnf)<;>exact rfl;(with_reducible assumption))|(apply OKx_lenR2;(conv=>lhs;whnf)<;>exact rfl;(with_reducible assumption))|(apply OKx_lenO;(conv=>lhs;whnf)<;>exact rfl;(first | exact at0|exact at1|exact at2|exact at3|exact at4|exact at5|exact at6|exact at7))|(apply OKx_lss;exact rfl;exact rfl;all_goals (intro _; try (exfalso;omega)))|(apply OKx_eql;exact rfl;exact rfl;all_goals (intro _; try (exfalso;omega)))|(apply OKx_idxO;exact rfl;exact rfl;omega)|(apply OKx_idxR;(conv=>lhs;whnf)<;>exact rfl;(with_reducible assumption);exact rfl;omega;intro _ _)|(apply OKx_idxOz;exact rfl;exact rfl;omega;omega)|(apply OKx_idxRz;(conv=>lhs;whnf)<;>exact rfl;(with_reducible assumption);exact rfl;omega;omega;intro _ _)|(apply OKx_inc;exact rfl;exact rfl;omega)|(apply OKx_addN;exact rfl;exact rfl;omega)|(apply OKx_add;exact rfl;exact rfl;omega;omega)|(apply OKx_notT;exact rfl)|(apply OKx_notF;exact rfl)|(apply OKx_alloc1;intro _)|(apply OKx_stB;exact rfl;(conv=>lhs;whnf)<;>exact rfl;exact rfl;exact rfl;(first | exact at0|exact at1|exact at2|exact at3|exact at4|exact at5|exact at6|exact at7);exact rfl;exact rfl;exact rfl)|(apply OKx_slit1;(conv=>lhs;whnf)<;>exact rfl;exact rfl;intro _)|(apply OKx_box1;(conv=>lhs;whnf)<;>exact rfl;exact rfl;intro _)|(apply OKx_func;exact rfl;exact rfl))
    · rw [if_pos (by omega)] at hus
      rw [if_pos (.inl (by omega)), List.append_nil] at hks
      refine ⟨by (repeat' (first | refine agree_upd rfl ?_ | exact agree_over | exact agree_refl _ _ | refine agree_over2 rfl ?_)), m - 1, _, by omega, Ent.sub ((List.Sublist.refl _).cons _), ?_⟩
      exact ⟨k + 1, un + 1, vn, some ⟨g5, 0, none⟩, c5, va, vc, by omega, rfl, by rw [hus, List.length_append, hun]; rfl, by rw [hks]; exact hvn, fun _ => ⟨_, rfl⟩, hva, by rw [hus, hks]; rfl⟩
    · rw [if_neg (by omega), List.append_nil] at hus
      rw [if_pos (.inr hq), List.append_nil] at hks
      refine ⟨by (repeat' (first | refine agree_upd rfl ?_ | exact agree_over | exact agree_refl _ _ | refine agree_over2 rfl ?_)), m - 1, _, by omega, Ent.refl _ _, ?_⟩
      exact ⟨k + 1, un, vn, ua, uc, va, vc, by omega, rfl, by rw [hus]; exact hun, by rw [hks]; exact hvn, hua, hva, by rw [hus, hks]⟩
    · rw [if_neg (by omega), List.append_nil] at hus
      rw [if_neg (fun h => h.elim (fun h => by omega) (fun h => by rw [hq] at h; cases h))] at hks
      refine ⟨by (repeat' (first | refine agree_upd rfl ?_ | exact agree_over | exact agree_refl _ _ | refine agree_over2 rfl ?_)), m - 1, _, by omega, Ent.sub ((List.Sublist.refl _).cons _), ?_⟩
      exact ⟨k + 1, un, vn + 1, ua, uc, some ⟨g5, 0, none⟩, c5, by omega, rfl, by rw [hus]; exact hun, by rw [hks, List.length_append, hvn]; rfl, hua, fun _ => ⟨_, rfl⟩, by rw [hus, hks]; rfl⟩
  obtain rfl : k = st.length := by omega
  by_cases hv0 : vn = 0
  · have hkw := knw_nil (st := st) (by omega)
    rw [hkw] at hch
    subst hun
    repeat' (first|(apply OK_seq)|(apply thenQ_n)|(apply OK_region)|(apply OKx_gc 91;exact rfl; refine OKx_call (f := 91) rfl rfl (fun w1 hp => hcl w1 hp.below) ?_; rintro _ _ ⟨⟨oa, oc, rfl, hov⟩, rfl⟩; rw [List.cons_append, List.nil_append])|(apply OKx_gc 139;exact rfl; refine OKx_callL (f := 139) rfl rfl ((hch _ _ _ _ _ ua uc _ 1 _ _ (fun h => by obtain ⟨g, rfl⟩ := hov h; exact ⟨g, oc, rfl⟩) rfl hua).pre (Ent.pickT [_, _, _, _, _, _, _, _, _] J0 [2, 1, 6, 8, 7, 0, 4, 3] rfl)) ?_; rintro _ _ ⟨rfl, hJ'⟩)|(apply OKx_nilK)|(apply OK_block)|(apply blockQ_n)|(apply blockQ_s)|(apply thenQ_e)|(apply blockQ_e;exact rfl)|(apply thenQ_r)|(apply blockQ_r)|(apply OK_condT;exact rfl)|(apply OK_condF;exact rfl)|(apply OK_skip)|(apply OK_exit)|(apply OK_ret)|(apply OKx_move;(conv=>lhs;whnf)<;>exact rfl)|(apply OKx_assign;(conv=>lhs;whnf)<;>exact rfl)|(apply OKx_ldB;exact rfl;(first | exact at0|exact at1|exact at2|exact at3|exact at4|exact at5|exact at6|exact at7);exact rfl)|(apply OKx_ldR;(conv=>lhs;whnf)<;>exact rfl;(with_reducible assumption))|(apply OKx_ldI;exact rfl;(first | exact at0|exact at1|exact at2|exact at3|exact at4|exact at5|exact at6|exact at7);omega)|(apply OKx_len;exact rfl)|(apply OKx_lenR;(conv=>lhs;whnf)<;>exact rfl;(with_reducible assumption))|(apply OKx_lenR2;(conv=>lhs;whnf)<;>exact rfl;(with_reducible assumption))|(apply OKx_lenO;(conv=>lhs;whnf)<;>exact rfl;(first | exact at0|exact at1|exact at2|exact at3|exact at4|exact at5|exact at6|exact at7))|(apply OKx_lss;exact rfl;exact rfl;all_goals (intro _; try (exfalso;omega)))|(apply OKx_eql;exact rfl;exact rfl;all_goals (intro _; try (exfalso;omega)))|(apply OKx_idxO;exact rfl;exact rfl;omega)|(apply OKx_idxR;(conv=>lhs;whnf)<;>exact rfl;(with_reducible assumption);exact rfl;omega;intro _ _)|(apply OKx_idxOz;exact rfl;exact rfl;omega;omega)|(apply OKx_idxRz;(conv=>lhs;whnf)<;>exact rfl;(with_reducible assumption);exact rfl;omega;omega;intro _ _)|(apply OKx_inc;exact rfl;exact rfl;omega)|(apply OKx_addN;exact rfl;exact rfl;omega)|(apply OKx_add;exact rfl;exact rfl;omega;omega)|(apply OKx_notT;exact rfl)|(apply OKx_notF;exact rfl)|(apply OKx_alloc1;intro _)|(apply OKx_stB;exact rfl;(conv=>lhs;whnf)<;>exact rfl;exact rfl;exact rfl;(first | exact at0|exact at1|exact at2|exact at3|exact at4|exact at5|exact at6|exact at7);exact rfl;exact rfl;exact rfl)|(apply OKx_slit1;(conv=>lhs;whnf)<;>exact rfl;exact rfl;intro _)|(apply OKx_box1;(conv=>lhs;whnf)<;>exact rfl;exact rfl;intro _)|(apply OKx_func;exact rfl;exact rfl))
    first | refine bodyQ_r0 ?_ | refine bodyQ_n0 ?_
    exact ⟨_, Ent.refl _ _, rfl, hJ'⟩
  · have hkw := knw_cons (st := st) (by omega)
    obtain ⟨gv, rfl⟩ := hva (by omega)
    rw [hkw] at hch
    subst hun
    repeat' (first|(apply OK_seq)|(apply thenQ_n)|(apply OK_region)|(apply OKx_gc 91;exact rfl; refine OKx_call (f := 91) rfl rfl (fun w1 hp => hcl w1 hp.below) ?_; rintro _ _ ⟨⟨oa, oc, rfl, hov⟩, rfl⟩; rw [List.cons_append, List.nil_append])|(apply OKx_gc 139;exact rfl; refine OKx_callL (f := 139) rfl rfl ((hch _ _ _ _ _ ua uc gv vn vc _ (fun h => by obtain ⟨g, rfl⟩ := hov h; exact ⟨g, oc, rfl⟩) hvn.symm hua).pre (Ent.pickT [_, _, _, _, _, _, _, _] J0 [2, 1, 5, 7, 6, 0, 3, 4] rfl)) ?_; rintro _ _ ⟨rfl, hJ'⟩)|(apply OKx_nilK)|(apply OK_block)|(apply blockQ_n)|(apply blockQ_s)|(apply thenQ_e)|(apply blockQ_e;exact rfl)|(apply thenQ_r)|(apply blockQ_r)|(apply OK_condT;exact rfl)|(apply OK_condF;exact rfl)|(apply OK_skip)|(apply OK_exit)|(apply OK_ret)|(apply OKx_move;(conv=>lhs;whnf)<;>exact rfl)|(apply OKx_assign;(conv=>lhs;whnf)<;>exact rfl)|(apply OKx_ldB;exact rfl;(first | exact at0|exact at1|exact at2|exact at3|exact at4|exact at5|exact at6|exact at7);exact rfl)|(apply OKx_ldR;(conv=>lhs;whnf)<;>exact rfl;(with_reducible assumption))|(apply OKx_ldI;exact rfl;(first | exact at0|exact at1|exact at2|exact at3|exact at4|exact at5|exact at6|exact at7);omega)|(apply OKx_len;exact rfl)|(apply OKx_lenR;(conv=>lhs;whnf)<;>exact rfl;(with_reducible assumption))|(apply OKx_lenR2;(conv=>lhs;whnf)<;>exact rfl;(with_reducible assumption))|(apply OKx_lenO;(conv=>lhs;whnf)<;>exact rfl;(first | exact at0|exact at1|exact at2|exact at3|exact at4|exact at5|exact at6|exact at7))|(apply OKx_lss;exact rfl;exact rfl;all_goals (intro _; try (exfalso;omega)))|(apply OKx_eql;exact rfl;exact rfl;all_goals (intro _; try (exfalso;omega)))|(apply OKx_idxO;exact rfl;exact rfl;omega)|(apply OKx_idxR;(conv=>lhs;whnf)<;>exact rfl;(with_reducible assumption);exact rfl;omega;intro _ _)|(apply OKx_idxOz;exact rfl;exact rfl;omega;omega)|(apply OKx_idxRz;(conv=>lhs;whnf)<;>exact rfl;(with_reducible assumption);exact rfl;omega;omega;intro _ _)|(apply OKx_inc;exact rfl;exact rfl;omega)|(apply OKx_addN;exact rfl;exact rfl;omega)|(apply OKx_add;exact rfl;exact rfl;omega;omega)|(apply OKx_notT;exact rfl)|(apply OKx_notF;exact rfl)|(apply OKx_alloc1;intro _)|(apply OKx_stB;exact rfl;(conv=>lhs;whnf)<;>exact rfl;exact rfl;exact rfl;(first | exact at0|exact at1|exact at2|exact at3|exact at4|exact at5|exact at6|exact at7);exact rfl;exact rfl;exact rfl)|(apply OKx_slit1;(conv=>lhs;whnf)<;>exact rfl;exact rfl;intro _)|(apply OKx_box1;(conv=>lhs;whnf)<;>exact rfl;exact rfl;intro _)|(apply OKx_func;exact rfl;exact rfl))
    first | refine bodyQ_r0 ?_ | refine bodyQ_n0 ?_
    exact ⟨_, Ent.refl _ _, rfl, hJ'⟩
end Go.Proofs.YtdigdmnnjbndlaaGreatDoor
