/-
  Part 5 of the proof: As39, Po39, Ro39, Anx. No statement of the seat is proved here.
-/
import Derived.Test.YtmclgfipdgmomaaMHUndecided4
namespace Go.Proofs.Ytmclgfipdgmomaa
open Go.RowKit
def capsC (p5 p3 p8 p4 p9 : Nat) : List Value := [.pointer (some ⟨p5, 0, none⟩), .pointer (some ⟨p3, 0, none⟩), .pointer (some ⟨p8, 0, none⟩), .pointer (some ⟨p4, 0, none⟩), .pointer (some ⟨p9, 0, none⟩)]
def zC (p3 p4 p5 p8 p9 : Nat) (ef : Value) (ua : Option Addr) (un uc : Nat) (U : List Int) (va vn vc : Nat) (V : List Int) : List Res :=
  [.box 27 p5 [.slice ua un uc], .box 88 p3 [ef], .box 27 p4 [.slice (some ⟨va, 0, none⟩) vn vc], .box 114 p9 [.func (.func 108) #[] (capsC p5 p3 p8 p4 p9).toArray],
    .row 3 1 (.slice ua un uc) un (ints U), .row 3 1 (.slice (some ⟨va, 0, none⟩) vn vc) vn (ints V)]
def ChoR (N : Nat) (ov : Value) (p8 : Nat) (Z : List Res) (V us o : List Int) (JP : List (List Int) → List Res → Prop) (pre : List (List Int)) (u : Value) (L : List Res) : Prop :=
  u = .tuple #[] ∧ ∃ o' J', o'.length = N ∧ (∀ j, j < N → (j : Int) ∉ us → o'.getD j 0 = o.getD j 0) ∧ JP (pre ++ asgU V us o) J' ∧ L = rA ov N o' :: .box 27 p8 [ov] :: (Z ++ J')
set_option maxRecDepth 100000 in
set_option maxHeartbeats 4000000 in
set_option maxRecDepth 100000 in
set_option maxHeartbeats 4000000 in
theorem choose_sat (p3 p4 p5 p8 p9 fe : Nat) (ec : List Value) (ua : Option Addr) (un uc : Nat) (U : List Int) (va vn vc : Nat) (V : List Int) (N : Nat) (ov : Value) (w0 : World) (Val : List Int → Prop) (JP : List (List Int) → List Res → Prop)
    (hov : 0 < N → ∃ g c, ov = .slice (some ⟨g, 0, none⟩) N c) (hun : U.length = un) (hvn : V.length = vn) (hN8 : N ≤ 1000) (hun8 : un ≤ 1000) (hvn8 : vn ≤ 1000) (hua : 0 < un → ∃ g, ua = some ⟨g, 0, none⟩) (hU : ∀ u ∈ U, 0 ≤ u ∧ u.toNat < N)
    (hy : ∀ o pre J, o.length = N → Val o → JP pre J → SatL Try.prog fe (ov :: ec) w0 (rA ov N o :: .box 27 p8 [ov] :: (zC p3 p4 p5 p8 p9 (.func (.func fe) #[] ec.toArray) ua un uc U va vn vc V ++ J))
      (fun u L => u = .tuple #[] ∧ ∃ J', JP (pre ++ [o]) J' ∧ L = rA ov N o :: .box 27 p8 [ov] :: (zC p3 p4 p5 p8 p9 (.func (.func fe) #[] ec.toArray) ua un uc U va vn vc V ++ J'))) :
    ∀ us k o pre J, U.drop k = us → k ≤ un → o.length = N → (∀ a ∈ asgU V us o, Val a) → JP pre J →
      SatL Try.prog 108 (.int .i64 (k : Int) :: capsC p5 p3 p8 p4 p9) w0 (rA ov N o :: .box 27 p8 [ov] :: (zC p3 p4 p5 p8 p9 (.func (.func fe) #[] ec.toArray) ua un uc U va vn vc V ++ J))
        (ChoR N ov p8 (zC p3 p4 p5 p8 p9 (.func (.func fe) #[] ec.toArray) ua un uc U va vn vc V) V us o JP pre) := by
  intro us
  induction us with
  | nil =>
    intro k o pre J hk hku ho hval hJ
    have hkl := List.drop_eq_nil_iff.1 hk
    obtain rfl : k = un := by omega
    have hy := hy o pre J ho (hval o (by simp [asgU])) hJ
    simp only [capsC, rA] at *
    generalize hZ : ChoR _ _ _ _ _ _ _ _ _ = R
    generalize hE : (Value.func (.func fe) #[] ec.toArray) = ef at *
    simp only [zC, List.cons_append, List.nil_append] at *
    subst hE
    refine SatL.of 34 [] Try.func108 (by kernel_rfl) (by kernel_rfl) rfl rfl rfl rfl ?_
    repeat' (first | (apply OK_seq) | (apply thenQ_n) | (apply OK_region) | (refine OKx_callL (f := fe) rfl (by simp only [List.toList_toArray]; exact rfl) hy ?_; rintro _ _ ⟨rfl, J', hJ', rfl⟩) | refine OK_mix [] [0, 1, 2, 3, 4, 5, 6] [] [7] [] (id := 5) (by kernel_rfl) (by kernel_rfl) rfl (Ent.nil) (by ((try simp only [pickO, nthO, List.cons_append, List.nil_append, List.append_nil]) <;> exact rfl)) (by ((try simp only [pickO, nthO, List.cons_append, List.nil_append, List.append_nil]) <;> exact rfl)) (by ((try simp only [pickO, nthO, List.cons_append, List.nil_append, List.append_nil]) <;> exact rfl)) (by ((try simp only [pickO, nthO, List.cons_append, List.nil_append, List.append_nil]) <;> exact rfl)) ?_ | (apply OKx_nilK) | (apply OK_block) | (apply blockQ_n) | (apply blockQ_s) | (apply thenQ_e) | (apply blockQ_e; exact rfl) | (apply thenQ_r) | (apply blockQ_r) | (apply OK_condT; exact rfl) | (apply OK_condF; exact rfl) | (apply OK_skip) | (apply OK_exit) | (apply OK_ret) | (apply OKx_move; ((conv => lhs; whnf) <;> exact rfl)) | (apply OKx_assign; ((conv => lhs; whnf) <;> exact rfl)) | (apply OKx_ldB; exact rfl; (first | exact at0 | exact at1 | exact at2 | exact at3 | exact at4 | exact at5 | exact at6 | exact at7); exact rfl) | (apply OKx_ldR; ((conv => lhs; whnf) <;> exact rfl); (with_reducible assumption)) | (apply OKx_ldI; exact rfl; (first | exact at0 | exact at1 | exact at2 | exact at3 | exact at4 | exact at5 | exact at6 | exact at7); omega) | (apply OKx_len; exact rfl) | (apply OKx_lenR; ((conv => lhs; whnf) <;> exact rfl); (with_reducible assumption)) | (apply OKx_lenR2; ((conv => lhs; whnf) <;> exact rfl); (with_reducible assumption)) | (apply OKx_lenO; ((conv => lhs; whnf) <;> exact rfl); (first | exact at0 | exact at1 | exact at2 | exact at3 | exact at4 | exact at5 | exact at6 | exact at7)) | (apply OKx_lss; exact rfl; exact rfl; all_goals (intro _; try (exfalso; omega))) | (apply OKx_eql; exact rfl; exact rfl; all_goals (intro _; try (exfalso; omega))) | (apply OKx_idxO; exact rfl; exact rfl; omega) | (apply OKx_idxR; ((conv => lhs; whnf) <;> exact rfl); (with_reducible assumption); exact rfl; omega; intro _ _) | (apply OKx_idxOz; exact rfl; exact rfl; omega; omega) | (apply OKx_idxRz; ((conv => lhs; whnf) <;> exact rfl); (with_reducible assumption); exact rfl; omega; omega; intro _ _) | (apply OKx_inc; exact rfl; exact rfl; omega) | (apply OKx_addN; exact rfl; exact rfl; omega) | (apply OKx_add; exact rfl; exact rfl; omega; omega) | (apply OKx_stI; exact rfl; exact rfl; (first | exact at0 | exact at1 | exact at2 | exact at3 | exact at4 | exact at5 | exact at6 | exact at7); omega; exact rfl) | (apply OKx_stB; exact rfl; ((conv => lhs; whnf) <;> exact rfl); exact rfl; exact rfl; (first | exact at0 | exact at1 | exact at2 | exact at3 | exact at4 | exact at5 | exact at6 | exact at7); exact rfl; exact rfl; exact rfl))
    first | refine bodyQ_r0 ?_ | refine bodyQ_n0 ?_
    subst hZ
    refine ⟨_, Ent.refl _ _, rfl, o, J', ho, fun j hj _ => rfl, by simpa [asgU] using hJ', rfl⟩
  | cons u us ih =>
    intro k o pre J hk hku ho hval hJ
    have hkl : k < U.length := by
      rcases Nat.lt_or_ge k U.length with h | h
      · exact h
      · rw [List.drop_eq_nil_iff.2 h] at hk; cases hk
    have hku2 : U.getD k 0 = u ∧ U.drop (k + 1) = us := by
      rw [List.drop_eq_getElem_cons hkl] at hk
      simp only [List.cons.injEq] at hk
      exact ⟨by rw [getD_lt _ _ _ hkl]; exact hk.1, hk.2⟩
    obtain ⟨hu, hdr⟩ := hku2
    have hu0 := hU u (by rw [← hu]; exact getD_mem U k 0 hkl)
    have hus : ∀ x ∈ us, 0 ≤ x := fun x hx => (hU x (by rw [← hdr] at hx; exact List.mem_of_mem_drop hx)).1
    obtain ⟨gu, rfl⟩ := hua (by omega)
    obtain ⟨go, co, rfl⟩ := hov (by omega)
    have ihk := ih (k + 1)
    clear ih hy
    simp only [capsC, rA] at *
    generalize hZ : ChoR _ _ _ _ _ _ _ _ _ = R
    generalize hE : (Value.func (.func fe) #[] ec.toArray) = ef at *
    simp only [zC, List.cons_append, List.nil_append] at *
    refine SatL.of 34 [] Try.func108 (by kernel_rfl) (by kernel_rfl) rfl rfl rfl rfl ?_
    repeat' (first | (apply OK_seq) | (apply thenQ_n) | (apply OK_region) | refine OK_mix [] [0, 1, 2, 3, 4, 5, 6] [] [7] [] (id := 5) (by kernel_rfl) (by kernel_rfl) rfl (Ent.nil) (by ((try simp only [pickO, nthO, List.cons_append, List.nil_append, List.append_nil]) <;> exact rfl)) (by ((try simp only [pickO, nthO, List.cons_append, List.nil_append, List.append_nil]) <;> exact rfl)) (by ((try simp only [pickO, nthO, List.cons_append, List.nil_append, List.append_nil]) <;> exact rfl)) (by ((try simp only [pickO, nthO, List.cons_append, List.nil_append, List.append_nil]) <;> exact rfl)) ?_ | (apply OKx_nilK) | (apply OK_block) | (apply blockQ_n) | (apply blockQ_s) | (apply thenQ_e) | (apply blockQ_e; exact rfl) | (apply thenQ_r) | (apply blockQ_r) | (apply OK_condT; exact rfl) | (apply OK_condF; exact rfl) | (apply OK_skip) | (apply OK_exit) | (apply OK_ret) | (apply OKx_move; ((conv => lhs; whnf) <;> exact rfl)) | (apply OKx_assign; ((conv => lhs; whnf) <;> exact rfl)) | (apply OKx_ldB; exact rfl; (first | exact at0 | exact at1 | exact at2 | exact at3 | exact at4 | exact at5 | exact at6 | exact at7); exact rfl) | (apply OKx_ldR; ((conv => lhs; whnf) <;> exact rfl); (with_reducible assumption)) | (apply OKx_ldI; exact rfl; (first | exact at0 | exact at1 | exact at2 | exact at3 | exact at4 | exact at5 | exact at6 | exact at7); omega) | (apply OKx_len; exact rfl) | (apply OKx_lenR; ((conv => lhs; whnf) <;> exact rfl); (with_reducible assumption)) | (apply OKx_lenR2; ((conv => lhs; whnf) <;> exact rfl); (with_reducible assumption)) | (apply OKx_lenO; ((conv => lhs; whnf) <;> exact rfl); (first | exact at0 | exact at1 | exact at2 | exact at3 | exact at4 | exact at5 | exact at6 | exact at7)) | (apply OKx_lss; exact rfl; exact rfl; all_goals (intro _; try (exfalso; omega))) | (apply OKx_eql; exact rfl; exact rfl; all_goals (intro _; try (exfalso; omega))) | (apply OKx_idxO; exact rfl; exact rfl; omega) | (apply OKx_idxR; ((conv => lhs; whnf) <;> exact rfl); (with_reducible assumption); exact rfl; omega; intro _ _) | (apply OKx_idxOz; exact rfl; exact rfl; omega; omega) | (apply OKx_idxRz; ((conv => lhs; whnf) <;> exact rfl); (with_reducible assumption); exact rfl; omega; omega; intro _ _) | (apply OKx_inc; exact rfl; exact rfl; omega) | (apply OKx_addN; exact rfl; exact rfl; omega) | (apply OKx_add; exact rfl; exact rfl; omega; omega) | (apply OKx_stI; exact rfl; exact rfl; (first | exact at0 | exact at1 | exact at2 | exact at3 | exact at4 | exact at5 | exact at6 | exact at7); omega; exact rfl) | (apply OKx_stB; exact rfl; ((conv => lhs; whnf) <;> exact rfl); exact rfl; exact rfl; (first | exact at0 | exact at1 | exact at2 | exact at3 | exact at4 | exact at5 | exact at6 | exact at7); exact rfl; exact rfl; exact rfl))
    refine OK_loop1 18 [8, 18, 19, 20, 21, 22, 23, 24, 25, 26, 27, 28, 29, 30, 31, 32, 33] (fun m v L => ∃ (q : Nat) (o' : List Int) (J' : List Res), q + m = vn ∧ v = .int .i64 (q : Int) ∧ o'.length = N ∧ (∀ j, j < N → (j : Int) ∉ u :: us → o'.getD j 0 = o.getD j 0) ∧ JP (pre ++ (V.take q).flatMap (fun v => asgU V us (o.set u.toNat v))) J' ∧
      L = .row 3 1 (.slice (some ⟨go, 0, none⟩) N co) N (ints o') :: .box 27 p8 [.slice (some ⟨go, 0, none⟩) N co] :: .box 27 p5 [.slice (some ⟨gu, 0, none⟩) un uc] :: .box 88 p3 [ef] :: .box 27 p4 [.slice (some ⟨va, 0, none⟩) vn vc] ::
        .box 114 p9 [.func (.func 108) #[] #[.pointer (some ⟨p5, 0, none⟩), .pointer (some ⟨p3, 0, none⟩), .pointer (some ⟨p8, 0, none⟩), .pointer (some ⟨p4, 0, none⟩), .pointer (some ⟨p9, 0, none⟩)]] :: .row 3 1 (.slice (some ⟨gu, 0, none⟩) un uc) un (ints U) :: .row 3 1 (.slice (some ⟨va, 0, none⟩) vn vc) vn (ints V) :: J') vn _ (Ent.refl _ _) ⟨0, o, J, by omega, rfl, ho, fun j hj _ => rfl, by simpa using hJ, rfl⟩ ?_
    rintro m v L G ⟨q, o', J', hq, rfl, ho', hoff, hJ', rfl⟩
    by_cases hqv : q < vn
    · have hstep : (V.take (q + 1)).flatMap (fun v => asgU V us (o.set u.toNat v)) = (V.take q).flatMap (fun v => asgU V us (o.set u.toNat v)) ++ asgU V us (o.set u.toNat (V.getD q 0)) := by
        rw [List.take_succ_eq_append_getElem (by omega), List.flatMap_append, getD_lt _ _ _ (show q < V.length by omega)]
        simp
      have hsame : asgU V us (o'.set u.toNat (V.getD q 0)) = asgU V us (o.set u.toNat (V.getD q 0)) := by
        refine asgU_off V us _ _ hus (by simp [ho, ho']) (fun j hj hn => ?_)
        rw [List.length_set] at hj
        rw [setI_getD _ _ _ _ hj, setI_getD _ _ _ _ (by omega)]
        split
        · rfl
        · rename_i hne
          refine hoff j (by omega) ?_
          rw [List.mem_cons]
          exact fun e2 => e2.elim (fun e2 => hne (by omega)) hn
      have hcall := ihk (o'.set u.toNat (V.getD q 0)) (pre ++ (V.take q).flatMap (fun v => asgU V us (o.set u.toNat v))) J' hdr (by omega) (by simpa using ho') (fun a ha => by
        rw [hsame] at ha
        refine hval a ?_
        unfold asgU
        exact List.mem_flatMap.2 ⟨_, getD_mem V q 0 (by omega), ha⟩) hJ'
      rw [← hu] at hcall
      repeat' (first | (apply OK_seq) | (apply thenQ_n) | (apply OK_region) | (refine OKx_callL (f := 108) rfl rfl hcall ?_; rintro _ _ ⟨rfl, o2, J2, h1, h2, h3, rfl⟩) | refine OK_mix [] [0, 1, 2, 3, 4, 5, 6] [] [7] [] (id := 5) (by kernel_rfl) (by kernel_rfl) rfl (Ent.nil) (by ((try simp only [pickO, nthO, List.cons_append, List.nil_append, List.append_nil]) <;> exact rfl)) (by ((try simp only [pickO, nthO, List.cons_append, List.nil_append, List.append_nil]) <;> exact rfl)) (by ((try simp only [pickO, nthO, List.cons_append, List.nil_append, List.append_nil]) <;> exact rfl)) (by ((try simp only [pickO, nthO, List.cons_append, List.nil_append, List.append_nil]) <;> exact rfl)) ?_ | (apply OKx_nilK) | (apply OK_block) | (apply blockQ_n) | (apply blockQ_s) | (apply thenQ_e) | (apply blockQ_e; exact rfl) | (apply thenQ_r) | (apply blockQ_r) | (apply OK_condT; exact rfl) | (apply OK_condF; exact rfl) | (apply OK_skip) | (apply OK_exit) | (apply OK_ret) | (apply OKx_move; ((conv => lhs; whnf) <;> exact rfl)) | (apply OKx_assign; ((conv => lhs; whnf) <;> exact rfl)) | (apply OKx_ldB; exact rfl; (first | exact at0 | exact at1 | exact at2 | exact at3 | exact at4 | exact at5 | exact at6 | exact at7); exact rfl) | (apply OKx_ldR; ((conv => lhs; whnf) <;> exact rfl); (with_reducible assumption)) | (apply OKx_ldI; exact rfl; (first | exact at0 | exact at1 | exact at2 | exact at3 | exact at4 | exact at5 | exact at6 | exact at7); omega) | (apply OKx_len; exact rfl) | (apply OKx_lenR; ((conv => lhs; whnf) <;> exact rfl); (with_reducible assumption)) | (apply OKx_lenR2; ((conv => lhs; whnf) <;> exact rfl); (with_reducible assumption)) | (apply OKx_lenO; ((conv => lhs; whnf) <;> exact rfl); (first | exact at0 | exact at1 | exact at2 | exact at3 | exact at4 | exact at5 | exact at6 | exact at7)) | (apply OKx_lss; exact rfl; exact rfl; all_goals (intro _; try (exfalso; omega))) | (apply OKx_eql; exact rfl; exact rfl; all_goals (intro _; try (exfalso; omega))) | (apply OKx_idxO; exact rfl; exact rfl; omega) | (apply OKx_idxR; ((conv => lhs; whnf) <;> exact rfl); (with_reducible assumption); exact rfl; omega; intro _ _) | (apply OKx_idxOz; exact rfl; exact rfl; omega; omega) | (apply OKx_idxRz; ((conv => lhs; whnf) <;> exact rfl); (with_reducible assumption); exact rfl; omega; omega; intro _ _) | (apply OKx_inc; exact rfl; exact rfl; omega) | (apply OKx_addN; exact rfl; exact rfl; omega) | (apply OKx_add; exact rfl; exact rfl; omega; omega) | (apply OKx_stI; exact rfl; exact rfl; (first | exact at0 | exact at1 | exact at2 | exact at3 | exact at4 | exact at5 | exact at6 | exact at7); omega; exact rfl) | (apply OKx_stB; exact rfl; ((conv => lhs; whnf) <;> exact rfl); exact rfl; exact rfl; (first | exact at0 | exact at1 | exact at2 | exact at3 | exact at4 | exact at5 | exact at6 | exact at7); exact rfl; exact rfl; exact rfl))
      refine ⟨by (repeat' (first | refine agree_upd rfl ?_ | exact agree_over | exact agree_refl _ _ | refine agree_over2 rfl ?_)), m - 1, _, by omega, Ent.refl _ _, ?_⟩
      refine ⟨q + 1, o2, J2, by omega, rfl, h1, fun j hj hn => ?_, by rw [hstep, ← List.append_assoc, ← hsame, ← hu]; exact h3, rfl⟩
      rw [List.mem_cons] at hn
      rw [h2 j hj (fun e => hn (.inr e)), hu, setI_getD _ _ _ _ (by omega), if_neg (fun e => hn (.inl (by omega)))]
      exact hoff j hj (by rw [List.mem_cons]; exact hn)
    · obtain rfl : q = vn := by omega
      repeat' (first | (apply OK_seq) | (apply thenQ_n) | (apply OK_region) | refine OK_mix [] [0, 1, 2, 3, 4, 5, 6] [] [7] [] (id := 5) (by kernel_rfl) (by kernel_rfl) rfl (Ent.nil) (by ((try simp only [pickO, nthO, List.cons_append, List.nil_append, List.append_nil]) <;> exact rfl)) (by ((try simp only [pickO, nthO, List.cons_append, List.nil_append, List.append_nil]) <;> exact rfl)) (by ((try simp only [pickO, nthO, List.cons_append, List.nil_append, List.append_nil]) <;> exact rfl)) (by ((try simp only [pickO, nthO, List.cons_append, List.nil_append, List.append_nil]) <;> exact rfl)) ?_ | (apply OKx_nilK) | (apply OK_block) | (apply blockQ_n) | (apply blockQ_s) | (apply thenQ_e) | (apply blockQ_e; exact rfl) | (apply thenQ_r) | (apply blockQ_r) | (apply OK_condT; exact rfl) | (apply OK_condF; exact rfl) | (apply OK_skip) | (apply OK_exit) | (apply OK_ret) | (apply OKx_move; ((conv => lhs; whnf) <;> exact rfl)) | (apply OKx_assign; ((conv => lhs; whnf) <;> exact rfl)) | (apply OKx_ldB; exact rfl; (first | exact at0 | exact at1 | exact at2 | exact at3 | exact at4 | exact at5 | exact at6 | exact at7); exact rfl) | (apply OKx_ldR; ((conv => lhs; whnf) <;> exact rfl); (with_reducible assumption)) | (apply OKx_ldI; exact rfl; (first | exact at0 | exact at1 | exact at2 | exact at3 | exact at4 | exact at5 | exact at6 | exact at7); omega) | (apply OKx_len; exact rfl) | (apply OKx_lenR; ((conv => lhs; whnf) <;> exact rfl); (with_reducible assumption)) | (apply OKx_lenR2; ((conv => lhs; whnf) <;> exact rfl); (with_reducible assumption)) | (apply OKx_lenO; ((conv => lhs; whnf) <;> exact rfl); (first | exact at0 | exact at1 | exact at2 | exact at3 | exact at4 | exact at5 | exact at6 | exact at7)) | (apply OKx_lss; exact rfl; exact rfl; all_goals (intro _; try (exfalso; omega))) | (apply OKx_eql; exact rfl; exact rfl; all_goals (intro _; try (exfalso; omega))) | (apply OKx_idxO; exact rfl; exact rfl; omega) | (apply OKx_idxR; ((conv => lhs; whnf) <;> exact rfl); (with_reducible assumption); exact rfl; omega; intro _ _) | (apply OKx_idxOz; exact rfl; exact rfl; omega; omega) | (apply OKx_idxRz; ((conv => lhs; whnf) <;> exact rfl); (with_reducible assumption); exact rfl; omega; omega; intro _ _) | (apply OKx_inc; exact rfl; exact rfl; omega) | (apply OKx_addN; exact rfl; exact rfl; omega) | (apply OKx_add; exact rfl; exact rfl; omega; omega) | (apply OKx_stI; exact rfl; exact rfl; (first | exact at0 | exact at1 | exact at2 | exact at3 | exact at4 | exact at5 | exact at6 | exact at7); omega; exact rfl) | (apply OKx_stB; exact rfl; ((conv => lhs; whnf) <;> exact rfl); exact rfl; exact rfl; (first | exact at0 | exact at1 | exact at2 | exact at3 | exact at4 | exact at5 | exact at6 | exact at7); exact rfl; exact rfl; exact rfl))
      first | refine bodyQ_r0 ?_ | refine bodyQ_n0 ?_
      subst hZ
      rw [← hvn, List.take_length] at hJ'
      exact ⟨_, Ent.refl _ _, rfl, o', J', ho', hoff, hJ', rfl⟩
theorem SatL.post {P : Program} {f : FuncId} {args : List Value} {w0 : World} {L : List Res} {R R' : Value → List Res → Prop} (h : SatL P f args w0 L R) (hr : ∀ v L', R v L' → ∃ L'', Ent w0 L' L'' ∧ R' v L'') : SatL P f args w0 L R' :=
  ⟨h.enters, fun w hp => (h.calls w hp).mono fun e w' ⟨v, L', h1, h2, h3⟩ => by
    obtain ⟨L'', e', h4⟩ := hr v L' h3
    exact ⟨v, L'', h1, e'.use _ h2, h4⟩⟩
theorem swapZ {w0 : World} (a b : Res) (J Z : List Res) : Ent w0 (a :: b :: (Z ++ J)) (a :: b :: (J ++ Z)) := Ent.perm (List.Perm.cons _ (List.Perm.cons _ List.perm_append_comm))
theorem knw_nil {st : List Int} (h : (knwL st st.length).length = 0) : knw st = [0] := if_pos (List.eq_nil_of_length_eq_zero h)
theorem knw_cons {st : List Int} (h : (knwL st st.length).length ≠ 0) : knw st = knwL st st.length := if_neg (fun e => h (by rw [e]; rfl))
set_option maxRecDepth 100000 in
set_option maxHeartbeats 4000000 in
theorem asgA_sat (fe : Nat) (ec : List Value) (sv : Value) (st : List Int) (w0 : World) (J0 : List Res) (JP : List (List Int) → List Res → Prop) (hs : Ints w0 sv st) (hN8 : st.length ≤ 1000) (hJ : JP [] J0)
    (hy : ∀ ov p8 Z o pre J, (0 < st.length → ∃ g c, ov = .slice (some ⟨g, 0, none⟩) st.length c) → o.length = st.length → o ∈ asgH st → JP pre J → SatL Try.prog fe (ov :: ec) w0 (rA ov st.length o :: .box 27 p8 [ov] :: (J ++ Z)) (fun u L => u = .tuple #[] ∧ ∃ J', JP (pre ++ [o]) J' ∧ L = rA ov st.length o :: .box 27 p8 [ov] :: (J' ++ Z))) :
    SatL Try.prog 85 [sv, .func (.func fe) #[] ec.toArray] w0 J0 (fun u L => u = .tuple #[] ∧ JP (asgH st) L) := by
  have hsv := hs.sl
  have hsi := hs
  have hcl : ∀ w1, Below w0.heap.size w0 w1 → Sat Try.prog 30 [sv] w1 _ := fun w1 hb => cloneI_sat sv st w1 (hs.below hb) (by omega)
  have hch : ∀ p3 p4 p5 p8 p9 ua uc va vn vc ov, (0 < st.length → ∃ g c, ov = .slice (some ⟨g, 0, none⟩) st.length c) → (knw st).length = vn → (0 < (unkL st st.length).length → ∃ g, ua = some ⟨g, 0, none⟩) →
      SatL Try.prog 108 (.int .i64 ((0 : Nat) : Int) :: capsC p5 p3 p8 p4 p9) w0 (rA ov st.length st :: .box 27 p8 [ov] :: (zC p3 p4 p5 p8 p9 (.func (.func fe) #[] ec.toArray) ua (unkL st st.length).length uc (unkL st st.length) va vn vc (knw st) ++ J0))
        (fun u L => u = .tuple #[] ∧ JP (asgH st) L) := fun p3 p4 p5 p8 p9 ua uc va vn vc ov hov hvn hua => by
    have hkl := knwL_len st st.length
    have hkn : vn ≤ 1000 := by
      rw [← hvn]; unfold knw
      split
      · simp
      · omega
    refine (choose_sat p3 p4 p5 p8 p9 fe ec ua _ uc (unkL st st.length) va vn vc (knw st) st.length ov w0 (fun a => a ∈ asgH st) JP hov rfl hvn hN8 (by have := unkL_len st st.length; omega) hkn hua (unkL_nat st st.length)
      (fun o pre J ho hv hJ => ((hy ov p8 _ o pre J hov ho hv hJ).pre (swapZ _ _ _ _)).post (fun v L' ⟨h1, J', h2, h3⟩ => ⟨_, by rw [h3]; exact swapZ _ _ _ _, h1, J', h2, rfl⟩)) (unkL st st.length) 0 st [] J0 rfl (Nat.zero_le _) rfl (fun a ha => ha) hJ).post ?_
    rintro v L' ⟨h1, o', J', _, _, h2, rfl⟩
    exact ⟨J', Ent.sub (((List.sublist_append_right _ _).cons _).cons _), h1, by rw [List.nil_append] at h2; exact h2⟩
  refine SatL.of 41 [] Try.func85 (by kernel_rfl) (by kernel_rfl) rfl rfl rfl rfl ?_
  repeat' (first | (apply OK_seq) | (apply thenQ_n) | (apply OK_region) | (apply OKx_nilK) | (apply OK_block) | (apply blockQ_n) | (apply blockQ_s) | (apply thenQ_e) | (apply blockQ_e; exact rfl) | (apply thenQ_r) | (apply blockQ_r) | (apply OK_condT; exact rfl) | (apply OK_condF; exact rfl) | (apply OK_skip) | (apply OK_exit) | (apply OK_ret) | (apply OKx_move; ((conv => lhs; whnf) <;> exact rfl)) | (apply OKx_assign; ((conv => lhs; whnf) <;> exact rfl)) | (apply OKx_ldB; exact rfl; (first | exact at0 | exact at1 | exact at2 | exact at3 | exact at4 | exact at5 | exact at6 | exact at7); exact rfl) | (apply OKx_ldR; ((conv => lhs; whnf) <;> exact rfl); (with_reducible assumption)) | (apply OKx_ldI; exact rfl; (first | exact at0 | exact at1 | exact at2 | exact at3 | exact at4 | exact at5 | exact at6 | exact at7); omega) | (apply OKx_len; exact rfl) | (apply OKx_lenR; ((conv => lhs; whnf) <;> exact rfl); (with_reducible assumption)) | (apply OKx_lenR2; ((conv => lhs; whnf) <;> exact rfl); (with_reducible assumption)) | (apply OKx_lenO; ((conv => lhs; whnf) <;> exact rfl); (first | exact at0 | exact at1 | exact at2 | exact at3 | exact at4 | exact at5 | exact at6 | exact at7)) | (apply OKx_lss; exact rfl; exact rfl; all_goals (intro _; try (exfalso; omega))) | (apply OKx_eql; exact rfl; exact rfl; all_goals (intro _; try (exfalso; omega))) | (apply OKx_idxO; exact rfl; exact rfl; omega) | (apply OKx_idxR; ((conv => lhs; whnf) <;> exact rfl); (with_reducible assumption); exact rfl; omega; intro _ _) | (apply OKx_idxOz; exact rfl; exact rfl; omega; omega) | (apply OKx_idxRz; ((conv => lhs; whnf) <;> exact rfl); (with_reducible assumption); exact rfl; omega; omega; intro _ _) | (apply OKx_inc; exact rfl; exact rfl; omega) | (apply OKx_addN; exact rfl; exact rfl; omega) | (apply OKx_add; exact rfl; exact rfl; omega; omega) | (apply OKx_notT; exact rfl) | (apply OKx_notF; exact rfl) | (apply OKx_alloc1; intro _) | (apply OKx_stB; exact rfl; ((conv => lhs; whnf) <;> exact rfl); exact rfl; exact rfl; (first | exact at0 | exact at1 | exact at2 | exact at3 | exact at4 | exact at5 | exact at6 | exact at7); exact rfl; exact rfl; exact rfl) | (apply OKx_slit1; ((conv => lhs; whnf) <;> exact rfl); exact rfl; intro _) | (apply OKx_box1; ((conv => lhs; whnf) <;> exact rfl); exact rfl; intro _) | (apply OKx_func; exact rfl; exact rfl))
  rename_i p3 p4 p5
  refine OK_loop1 12 [6, 7, 12, 13, 14, 15, 16, 17, 18, 19, 20, 21, 22, 23, 24, 25, 26, 27, 28, 29, 30, 31] (fun m v L => ∃ (k un vn : Nat) (ua : Option Addr) (uc : Nat) (va : Option Addr) (vc : Nat), k + m = st.length ∧ v = .int .i64 (k : Int) ∧ un = (unkL st k).length ∧ vn = (knwL st k).length ∧ (0 < un → ∃ g, ua = some ⟨g, 0, none⟩) ∧ (0 < vn → ∃ g, va = some ⟨g, 0, none⟩) ∧
    L = .row 3 1 (.slice ua un uc) un (ints (unkL st k)) :: .row 3 1 (.slice va vn vc) vn (ints (knwL st k)) :: .box 27 p5 [.slice ua un uc] :: .box 27 p4 [.slice va vn vc] :: .box 88 p3 [.func (.func fe) #[] ec.toArray] :: J0) st.length _
    (Ent.mk fun w1 hp => (hp.nil 3 1).nil 3 1) ⟨0, 0, 0, none, 0, none, 0, by omega, rfl, rfl, rfl, fun h => absurd h (by omega), fun h => absurd h (by omega), rfl⟩ ?_
  rintro m v L G ⟨k, un, vn, ua, uc, va, vc, hm, rfl, hun, hvn, hua, hva, rfl⟩
  have hul := unkL_len st k
  have hkl := knwL_len st k
  by_cases hk : k < st.length
  · have hus := unkL_step st k
    have hks : knwL st (k + 1) = knwL st k ++ if st.getD k 0 < 0 ∨ hasI (knwL st k) (st.getD k 0) = true then [] else [st.getD k 0] := rfl
    generalize hU : unkL st k = U at *
    generalize hV : knwL st k = V at *
    repeat' (first | (apply OK_seq) | (apply thenQ_n) | (apply OK_region) | (refine OKx_callB (f := 28) (b := hasI V (st.getD k 0)) rfl rfl rfl (fun w1 hp => contains_int_sat _ V _ w1 (hp.ints 1 rfl (by omega))) ?_ ?_ <;> intro hq) | (refine OKx_appI 1 0 rfl rfl rfl rfl (by omega) (by omega) ?_; intro g5 c5) | (refine OKx_appI 2 0 rfl rfl rfl rfl (by omega) (by omega) ?_; intro g5 c5) | (apply OKx_nilK) | (apply OK_block) | (apply blockQ_n) | (apply blockQ_s) | (apply thenQ_e) | (apply blockQ_e; exact rfl) | (apply thenQ_r) | (apply blockQ_r) | (apply OK_condT; exact rfl) | (apply OK_condF; exact rfl) | (apply OK_skip) | (apply OK_exit) | (apply OK_ret) | (apply OKx_move; ((conv => lhs; whnf) <;> exact rfl)) | (apply OKx_assign; ((conv => lhs; whnf) <;> exact rfl)) | (apply OKx_ldB; exact rfl; (first | exact at0 | exact at1 | exact at2 | exact at3 | exact at4 | exact at5 | exact at6 | exact at7); exact rfl) | (apply OKx_ldR; ((conv => lhs; whnf) <;> exact rfl); (with_reducible assumption)) | (apply OKx_ldI; exact rfl; (first | exact at0 | exact at1 | exact at2 | exact at3 | exact at4 | exact at5 | exact at6 | exact at7); omega) | (apply OKx_len; exact rfl) | (apply OKx_lenR; ((conv => lhs; whnf) <;> exact rfl); (with_reducible assumption)) | (apply OKx_lenR2; ((conv => lhs; whnf) <;> exact rfl); (with_reducible assumption)) | (apply OKx_lenO; ((conv => lhs; whnf) <;> exact rfl); (first | exact at0 | exact at1 | exact at2 | exact at3 | exact at4 | exact at5 | exact at6 | exact at7)) | (apply OKx_lss; exact rfl; exact rfl; all_goals (intro _; try (exfalso; omega))) | (apply OKx_eql; exact rfl; exact rfl; all_goals (intro _; try (exfalso; omega))) | (apply OKx_idxO; exact rfl; exact rfl; omega) | (apply OKx_idxR; ((conv => lhs; whnf) <;> exact rfl); (with_reducible assumption); exact rfl; omega; intro _ _) | (apply OKx_idxOz; exact rfl; exact rfl; omega; omega) | (apply OKx_idxRz; ((conv => lhs; whnf) <;> exact rfl); (with_reducible assumption); exact rfl; omega; omega; intro _ _) | (apply OKx_inc; exact rfl; exact rfl; omega) | (apply OKx_addN; exact rfl; exact rfl; omega) | (apply OKx_add; exact rfl; exact rfl; omega; omega) | (apply OKx_notT; exact rfl) | (apply OKx_notF; exact rfl) | (apply OKx_alloc1; intro _) | (apply OKx_stB; exact rfl; ((conv => lhs; whnf) <;> exact rfl); exact rfl; exact rfl; (first | exact at0 | exact at1 | exact at2 | exact at3 | exact at4 | exact at5 | exact at6 | exact at7); exact rfl; exact rfl; exact rfl) | (apply OKx_slit1; ((conv => lhs; whnf) <;> exact rfl); exact rfl; intro _) | (apply OKx_box1; ((conv => lhs; whnf) <;> exact rfl); exact rfl; intro _) | (apply OKx_func; exact rfl; exact rfl))
    · rw [if_pos (by omega)] at hus
      rw [if_pos (.inl (by omega)), List.append_nil] at hks
      refine ⟨by (repeat' (first | refine agree_upd rfl ?_ | exact agree_over | exact agree_refl _ _ | refine agree_over2 rfl ?_)), m - 1, _, by omega, Ent.sub ((List.Sublist.refl _).cons _), ?_⟩
      exact ⟨k + 1, un + 1, vn, some ⟨g5, 0, none⟩, c5, va, vc, by omega, rfl, by rw [hus, List.length_append, hun]; rfl, by rw [hks]; exact hvn, fun _ => ⟨_, rfl⟩, hva, by rw [hus, hks]; rfl⟩
    · rw [if_neg (by omega), List.append_nil] at hus
      rw [if_pos (.inr hq), List.append_nil] at hks
      refine ⟨by (repeat' (first | refine agree_upd rfl ?_ | exact agree_over | exact agree_refl _ _ | refine agree_over2 rfl ?_)), m - 1, _, by omega, Ent.refl _ _, ?_⟩
      exact ⟨k + 1, un, vn, ua, uc, va, vc, by omega, rfl, by rw [hus]; exact hun, by rw [hks]; exact hvn, hua, hva, by rw [hus, hks]⟩
    · rw [if_neg (by omega), List.append_nil] at hus
      rw [if_neg (fun h => h.elim (fun h => by omega) (fun h => by rw [hq] at h; cases h))] at hks
      refine ⟨by (repeat' (first | refine agree_upd rfl ?_ | exact agree_over | exact agree_refl _ _ | refine agree_over2 rfl ?_)), m - 1, _, by omega, Ent.sub ((List.Sublist.refl _).cons _), ?_⟩
      exact ⟨k + 1, un, vn + 1, ua, uc, some ⟨g5, 0, none⟩, c5, by omega, rfl, by rw [hus]; exact hun, by rw [hks, List.length_append, hvn]; rfl, hua, fun _ => ⟨_, rfl⟩, by rw [hus, hks]; rfl⟩
  obtain rfl : k = st.length := by omega
  by_cases hv0 : vn = 0
  · have hkw := knw_nil (st := st) (by omega)
    rw [hkw] at hch
    subst hun
    repeat' (first | (apply OK_seq) | (apply thenQ_n) | (apply OK_region) | (refine OKx_call (f := 30) rfl rfl (fun w1 hp => hcl w1 hp.below) ?_; rintro _ _ ⟨⟨oa, oc, rfl, hov⟩, rfl⟩; rw [List.cons_append, List.nil_append]) | (refine OKx_callL (f := 108) rfl rfl ((hch _ _ _ _ _ ua uc _ 1 _ _ (fun h => by obtain ⟨g, rfl⟩ := hov h; exact ⟨g, oc, rfl⟩) rfl hua).pre (Ent.pickT [_, _, _, _, _, _, _, _, _] J0 [2, 1, 6, 8, 7, 0, 4, 3] rfl)) ?_; rintro _ _ ⟨rfl, hJ'⟩) | (apply OKx_nilK) | (apply OK_block) | (apply blockQ_n) | (apply blockQ_s) | (apply thenQ_e) | (apply blockQ_e; exact rfl) | (apply thenQ_r) | (apply blockQ_r) | (apply OK_condT; exact rfl) | (apply OK_condF; exact rfl) | (apply OK_skip) | (apply OK_exit) | (apply OK_ret) | (apply OKx_move; ((conv => lhs; whnf) <;> exact rfl)) | (apply OKx_assign; ((conv => lhs; whnf) <;> exact rfl)) | (apply OKx_ldB; exact rfl; (first | exact at0 | exact at1 | exact at2 | exact at3 | exact at4 | exact at5 | exact at6 | exact at7); exact rfl) | (apply OKx_ldR; ((conv => lhs; whnf) <;> exact rfl); (with_reducible assumption)) | (apply OKx_ldI; exact rfl; (first | exact at0 | exact at1 | exact at2 | exact at3 | exact at4 | exact at5 | exact at6 | exact at7); omega) | (apply OKx_len; exact rfl) | (apply OKx_lenR; ((conv => lhs; whnf) <;> exact rfl); (with_reducible assumption)) | (apply OKx_lenR2; ((conv => lhs; whnf) <;> exact rfl); (with_reducible assumption)) | (apply OKx_lenO; ((conv => lhs; whnf) <;> exact rfl); (first | exact at0 | exact at1 | exact at2 | exact at3 | exact at4 | exact at5 | exact at6 | exact at7)) | (apply OKx_lss; exact rfl; exact rfl; all_goals (intro _; try (exfalso; omega))) | (apply OKx_eql; exact rfl; exact rfl; all_goals (intro _; try (exfalso; omega))) | (apply OKx_idxO; exact rfl; exact rfl; omega) | (apply OKx_idxR; ((conv => lhs; whnf) <;> exact rfl); (with_reducible assumption); exact rfl; omega; intro _ _) | (apply OKx_idxOz; exact rfl; exact rfl; omega; omega) | (apply OKx_idxRz; ((conv => lhs; whnf) <;> exact rfl); (with_reducible assumption); exact rfl; omega; omega; intro _ _) | (apply OKx_inc; exact rfl; exact rfl; omega) | (apply OKx_addN; exact rfl; exact rfl; omega) | (apply OKx_add; exact rfl; exact rfl; omega; omega) | (apply OKx_notT; exact rfl) | (apply OKx_notF; exact rfl) | (apply OKx_alloc1; intro _) | (apply OKx_stB; exact rfl; ((conv => lhs; whnf) <;> exact rfl); exact rfl; exact rfl; (first | exact at0 | exact at1 | exact at2 | exact at3 | exact at4 | exact at5 | exact at6 | exact at7); exact rfl; exact rfl; exact rfl) | (apply OKx_slit1; ((conv => lhs; whnf) <;> exact rfl); exact rfl; intro _) | (apply OKx_box1; ((conv => lhs; whnf) <;> exact rfl); exact rfl; intro _) | (apply OKx_func; exact rfl; exact rfl))
    first | refine bodyQ_r0 ?_ | refine bodyQ_n0 ?_
    exact ⟨_, Ent.refl _ _, rfl, hJ'⟩
  · have hkw := knw_cons (st := st) (by omega)
    obtain ⟨gv, rfl⟩ := hva (by omega)
    rw [hkw] at hch
    subst hun
    repeat' (first | (apply OK_seq) | (apply thenQ_n) | (apply OK_region) | (refine OKx_call (f := 30) rfl rfl (fun w1 hp => hcl w1 hp.below) ?_; rintro _ _ ⟨⟨oa, oc, rfl, hov⟩, rfl⟩; rw [List.cons_append, List.nil_append]) | (refine OKx_callL (f := 108) rfl rfl ((hch _ _ _ _ _ ua uc gv vn vc _ (fun h => by obtain ⟨g, rfl⟩ := hov h; exact ⟨g, oc, rfl⟩) hvn.symm hua).pre (Ent.pickT [_, _, _, _, _, _, _, _] J0 [2, 1, 5, 7, 6, 0, 3, 4] rfl)) ?_; rintro _ _ ⟨rfl, hJ'⟩) | (apply OKx_nilK) | (apply OK_block) | (apply blockQ_n) | (apply blockQ_s) | (apply thenQ_e) | (apply blockQ_e; exact rfl) | (apply thenQ_r) | (apply blockQ_r) | (apply OK_condT; exact rfl) | (apply OK_condF; exact rfl) | (apply OK_skip) | (apply OK_exit) | (apply OK_ret) | (apply OKx_move; ((conv => lhs; whnf) <;> exact rfl)) | (apply OKx_assign; ((conv => lhs; whnf) <;> exact rfl)) | (apply OKx_ldB; exact rfl; (first | exact at0 | exact at1 | exact at2 | exact at3 | exact at4 | exact at5 | exact at6 | exact at7); exact rfl) | (apply OKx_ldR; ((conv => lhs; whnf) <;> exact rfl); (with_reducible assumption)) | (apply OKx_ldI; exact rfl; (first | exact at0 | exact at1 | exact at2 | exact at3 | exact at4 | exact at5 | exact at6 | exact at7); omega) | (apply OKx_len; exact rfl) | (apply OKx_lenR; ((conv => lhs; whnf) <;> exact rfl); (with_reducible assumption)) | (apply OKx_lenR2; ((conv => lhs; whnf) <;> exact rfl); (with_reducible assumption)) | (apply OKx_lenO; ((conv => lhs; whnf) <;> exact rfl); (first | exact at0 | exact at1 | exact at2 | exact at3 | exact at4 | exact at5 | exact at6 | exact at7)) | (apply OKx_lss; exact rfl; exact rfl; all_goals (intro _; try (exfalso; omega))) | (apply OKx_eql; exact rfl; exact rfl; all_goals (intro _; try (exfalso; omega))) | (apply OKx_idxO; exact rfl; exact rfl; omega) | (apply OKx_idxR; ((conv => lhs; whnf) <;> exact rfl); (with_reducible assumption); exact rfl; omega; intro _ _) | (apply OKx_idxOz; exact rfl; exact rfl; omega; omega) | (apply OKx_idxRz; ((conv => lhs; whnf) <;> exact rfl); (with_reducible assumption); exact rfl; omega; omega; intro _ _) | (apply OKx_inc; exact rfl; exact rfl; omega) | (apply OKx_addN; exact rfl; exact rfl; omega) | (apply OKx_add; exact rfl; exact rfl; omega; omega) | (apply OKx_notT; exact rfl) | (apply OKx_notF; exact rfl) | (apply OKx_alloc1; intro _) | (apply OKx_stB; exact rfl; ((conv => lhs; whnf) <;> exact rfl); exact rfl; exact rfl; (first | exact at0 | exact at1 | exact at2 | exact at3 | exact at4 | exact at5 | exact at6 | exact at7); exact rfl; exact rfl; exact rfl) | (apply OKx_slit1; ((conv => lhs; whnf) <;> exact rfl); exact rfl; intro _) | (apply OKx_box1; ((conv => lhs; whnf) <;> exact rfl); exact rfl; intro _) | (apply OKx_func; exact rfl; exact rfl))
    first | refine bodyQ_r0 ?_ | refine bodyQ_n0 ?_
    exact ⟨_, Ent.refl _ _, rfl, hJ'⟩
end Go.Proofs.Ytmclgfipdgmomaa
namespace Go.Proofs.Ytmclgfipdgmomaa
open Go.RowKit
set_option maxRecDepth 100000 in
set_option maxHeartbeats 4000000 in
theorem chg1_sat (pa pi av : Value) (all : List Int) (i : Nat) (p : Int) (w : World) (h1 : Pt1 w pa av) (h2 : Pt1 w pi (.int .i64 (i : Int))) (ha : Ints w av all) (h0 : 0 ≤ p) (hp : p.toNat < all.length) (hi : i < all.length) : SatV Try.prog 109 [.int .i64 p, pa, pi] w (.bool (sameB all i p)) := by
  have hav := ha.sl
  have hab := hav.bound
  refine SatL.of 14 [4] Try.func109 (by kernel_rfl) (by kernel_rfl) rfl rfl rfl rfl ?_
  repeat' (first | (apply OK_seq) | (apply thenQ_n) | (apply OK_region) | refine OK_quiet (id := 1) (by kernel_rfl) (by kernel_rfl) ?_ | (apply OKx_nilK) | (apply OK_block) | (apply blockQ_n) | (apply blockQ_s) | (apply thenQ_e) | (apply blockQ_e; exact rfl) | (apply thenQ_r) | (apply blockQ_r) | (apply OK_condT; exact rfl) | (apply OK_condF; exact rfl) | (apply OK_skip) | (apply OK_exit) | (apply OK_ret) | (apply OKx_move; ((conv => lhs; whnf) <;> exact rfl)) | (apply OKx_assign; ((conv => lhs; whnf) <;> exact rfl)) | (apply OKx_ldB; exact rfl; (first | exact at0 | exact at1 | exact at2 | exact at3 | exact at4 | exact at5 | exact at6 | exact at7); exact rfl) | (apply OKx_ldR; ((conv => lhs; whnf) <;> exact rfl); (with_reducible assumption)) | (apply OKx_ldI; exact rfl; (first | exact at0 | exact at1 | exact at2 | exact at3 | exact at4 | exact at5 | exact at6 | exact at7); omega) | (apply OKx_eql; exact rfl; exact rfl; all_goals (intro _; try (exfalso; omega))) | (apply OKx_idxO; exact rfl; exact rfl; omega) | (apply OKx_idxR; ((conv => lhs; whnf) <;> exact rfl); (with_reducible assumption); exact rfl; omega; intro _ _) | (apply OKx_idxOz; exact rfl; exact rfl; omega; omega) | (apply OKx_idxRz; ((conv => lhs; whnf) <;> exact rfl); (with_reducible assumption); exact rfl; omega; omega; intro _ _))
  · rename_i he
    first | refine bodyQ_r1 (by ((conv => lhs; whnf) <;> exact rfl)) ?_ | refine bodyQ_r2 (by ((conv => lhs; whnf) <;> exact rfl)) (by ((conv => lhs; whnf) <;> exact rfl)) ?_ | refine bodyQ_r3 (by ((conv => lhs; whnf) <;> exact rfl)) (by ((conv => lhs; whnf) <;> exact rfl)) (by ((conv => lhs; whnf) <;> exact rfl)) ?_ | refine bodyQ_r0 ?_ | refine bodyQ_n0 ?_
    exact ⟨_, Ent.nil, bool_eq (by unfold sameB; rw [he]; simp), rfl⟩
  · rename_i he
    first | refine bodyQ_r1 (by ((conv => lhs; whnf) <;> exact rfl)) ?_ | refine bodyQ_r2 (by ((conv => lhs; whnf) <;> exact rfl)) (by ((conv => lhs; whnf) <;> exact rfl)) ?_ | refine bodyQ_r3 (by ((conv => lhs; whnf) <;> exact rfl)) (by ((conv => lhs; whnf) <;> exact rfl)) (by ((conv => lhs; whnf) <;> exact rfl)) ?_ | refine bodyQ_r0 ?_ | refine bodyQ_n0 ?_
    exact ⟨_, Ent.nil, bool_eq (by unfold sameB; first | exact beq_eq_false_iff_ne.2 he | exact (beq_eq_false_iff_ne.2 he).symm), rfl⟩
theorem chgB_any (par : List (List Int)) (all : List Int) (i : Nat) : chgB par all i = (decide (0 < (par.getD i []).length) && !((par.getD i []).any (sameB all i))) := by
  unfold chgB
  cases par.getD i [] with
  | nil => rfl
  | cons x xs => rfl
def cstK (par : List (List Int)) (all : List Int) (k : Nat) : Nat := ((List.range k).filter (chgB par all)).length
theorem cstK_step (par : List (List Int)) (all : List Int) (k : Nat) : cstK par all (k + 1) = cstK par all k + if chgB par all k = true then 1 else 0 := by
  unfold cstK
  rw [List.range_succ, List.filter_append, List.length_append]
  congr 1
  by_cases h : chgB par all k = true
  · simp [h]
  · simp [h]
theorem cstK_le (par : List (List Int)) (all : List Int) (k : Nat) : cstK par all k ≤ k := by
  unfold cstK
  exact Nat.le_trans (List.length_filter_le _ _) (by simp)
set_option maxRecDepth 100000 in
set_option maxHeartbeats 4000000 in
theorem chg_sat (v av : Value) (s : Stem) (all : List Int) (w : World) (h : Stm w v s) (ha : Ints w av all) (hl : all.length = s.par.length) (hok : okPar s.par) : SatV Try.prog 87 [v, av] w (.int .i64 (costN s.par all : Int)) := by
  have hst := h
  obtain ⟨nv, ev, pv, rfl, _, _, hP⟩ := h
  obtain ⟨fv, hpv, hrow⟩ := hP.rows
  have hpb := hpv.bound
  obtain ⟨aa, ac, rfl, _⟩ := ha.at
  refine SatL.of 29 [4] Try.func87 (by kernel_rfl) (by kernel_rfl) rfl rfl rfl rfl ?_
  repeat' (first | (apply OK_seq) | (apply thenQ_n) | (apply OK_region) | (apply OKx_nilK) | (apply OK_block) | (apply blockQ_n) | (apply blockQ_s) | (apply thenQ_e) | (apply blockQ_e; exact rfl) | (apply thenQ_r) | (apply blockQ_r) | (apply OK_condT; exact rfl) | (apply OK_condF; exact rfl) | (apply OK_skip) | (apply OK_exit) | (apply OK_ret) | (apply OKx_move; ((conv => lhs; whnf) <;> exact rfl)) | (apply OKx_assign; ((conv => lhs; whnf) <;> exact rfl)) | (apply OKx_ldB; exact rfl; (first | exact at0 | exact at1 | exact at2 | exact at3 | exact at4 | exact at5 | exact at6 | exact at7); exact rfl) | (apply OKx_ldR; ((conv => lhs; whnf) <;> exact rfl); (with_reducible assumption)) | (apply OKx_len; exact rfl) | (apply OKx_lenR; ((conv => lhs; whnf) <;> exact rfl); (with_reducible assumption)) | (apply OKx_lenR2; ((conv => lhs; whnf) <;> exact rfl); (with_reducible assumption)) | (apply OKx_lenO; ((conv => lhs; whnf) <;> exact rfl); (first | exact at0 | exact at1 | exact at2 | exact at3 | exact at4 | exact at5 | exact at6 | exact at7)) | (apply OKx_lss; exact rfl; exact rfl; all_goals (intro _; try (exfalso; omega))) | (apply OKx_gtr; exact rfl; exact rfl; all_goals (intro _; try (exfalso; omega))) | (apply OKx_idxO; exact rfl; exact rfl; omega) | (apply OKx_idxR; ((conv => lhs; whnf) <;> exact rfl); (with_reducible assumption); exact rfl; omega; intro _ _) | (apply OKx_idxOz; exact rfl; exact rfl; omega; omega) | (apply OKx_idxRz; ((conv => lhs; whnf) <;> exact rfl); (with_reducible assumption); exact rfl; omega; omega; intro _ _) | (apply OKx_fldO; exact rfl; exact rfl) | (apply OKx_fldR; ((conv => lhs; whnf) <;> exact rfl); (with_reducible assumption); decide; intro _ _) | (apply OKx_inc; exact rfl; exact rfl; omega) | (apply OKx_addN; exact rfl; exact rfl; omega) | (apply OKx_add; exact rfl; exact rfl; omega; omega) | (apply OKx_pickT; exact rfl; ((conv => lhs; whnf) <;> exact rfl)) | (apply OKx_pickF; exact rfl; ((conv => lhs; whnf) <;> exact rfl)) | (apply OKx_guardT; exact rfl; exact rfl) | (apply OKx_guardF; exact rfl; exact rfl) | (apply OKx_guardU; exact rfl; exact rfl) | (apply OKx_notT; exact rfl) | (apply OKx_notF; exact rfl) | (apply OKx_boxA; exact rfl; intro _) | (apply OKx_alloc1; intro _) | (apply OKx_stI; exact rfl; exact rfl; (first | exact at0 | exact at1 | exact at2 | exact at3 | exact at4 | exact at5 | exact at6 | exact at7); omega; exact rfl) | (apply OKx_stB; exact rfl; ((conv => lhs; whnf) <;> exact rfl); exact rfl; exact rfl; (first | exact at0 | exact at1 | exact at2 | exact at3 | exact at4 | exact at5 | exact at6 | exact at7); exact rfl; exact rfl; exact rfl) | (apply OKx_box1; ((conv => lhs; whnf) <;> exact rfl); exact rfl; intro _) | (apply OKx_func; exact rfl; exact rfl))
  rename_i g2 g3
  refine OK_loop2 5 11 [5, 6, 7, 11, 12, 13, 14, 15, 16, 17, 18, 19, 20, 21, 22, 23, 24, 25, 26, 27] (fun m u v L => ∃ k q : Nat, k + m = s.par.length ∧ q = cstK s.par all k ∧ u = .int .i64 (q : Int) ∧ v = .int .i64 (k : Int) ∧ L = [.box 27 g3 [.slice aa all.length ac], .box 26 g2 [nv, ev, pv]]) s.par.length _ (Ent.refl _ _) ⟨0, 0, by omega, rfl, rfl, rfl, rfl⟩ ?_
  rintro m u v L G ⟨k, q, hm, hq, rfl, rfl, rfl⟩
  have hs := cstK_step s.par all k
  have hle := cstK_le s.par all k
  by_cases hk : k < s.par.length
  rotate_left
  · obtain rfl : k = s.par.length := by omega
    repeat' (first | (apply OK_seq) | (apply thenQ_n) | (apply OK_region) | (apply OKx_nilK) | (apply OK_block) | (apply blockQ_n) | (apply blockQ_s) | (apply thenQ_e) | (apply blockQ_e; exact rfl) | (apply thenQ_r) | (apply blockQ_r) | (apply OK_condT; exact rfl) | (apply OK_condF; exact rfl) | (apply OK_skip) | (apply OK_exit) | (apply OK_ret) | (apply OKx_move; ((conv => lhs; whnf) <;> exact rfl)) | (apply OKx_assign; ((conv => lhs; whnf) <;> exact rfl)) | (apply OKx_ldB; exact rfl; (first | exact at0 | exact at1 | exact at2 | exact at3 | exact at4 | exact at5 | exact at6 | exact at7); exact rfl) | (apply OKx_ldR; ((conv => lhs; whnf) <;> exact rfl); (with_reducible assumption)) | (apply OKx_len; exact rfl) | (apply OKx_lenR; ((conv => lhs; whnf) <;> exact rfl); (with_reducible assumption)) | (apply OKx_lenR2; ((conv => lhs; whnf) <;> exact rfl); (with_reducible assumption)) | (apply OKx_lenO; ((conv => lhs; whnf) <;> exact rfl); (first | exact at0 | exact at1 | exact at2 | exact at3 | exact at4 | exact at5 | exact at6 | exact at7)) | (apply OKx_lss; exact rfl; exact rfl; all_goals (intro _; try (exfalso; omega))) | (apply OKx_gtr; exact rfl; exact rfl; all_goals (intro _; try (exfalso; omega))) | (apply OKx_idxO; exact rfl; exact rfl; omega) | (apply OKx_idxR; ((conv => lhs; whnf) <;> exact rfl); (with_reducible assumption); exact rfl; omega; intro _ _) | (apply OKx_idxOz; exact rfl; exact rfl; omega; omega) | (apply OKx_idxRz; ((conv => lhs; whnf) <;> exact rfl); (with_reducible assumption); exact rfl; omega; omega; intro _ _) | (apply OKx_fldO; exact rfl; exact rfl) | (apply OKx_fldR; ((conv => lhs; whnf) <;> exact rfl); (with_reducible assumption); decide; intro _ _) | (apply OKx_inc; exact rfl; exact rfl; omega) | (apply OKx_addN; exact rfl; exact rfl; omega) | (apply OKx_add; exact rfl; exact rfl; omega; omega) | (apply OKx_pickT; exact rfl; ((conv => lhs; whnf) <;> exact rfl)) | (apply OKx_pickF; exact rfl; ((conv => lhs; whnf) <;> exact rfl)) | (apply OKx_guardT; exact rfl; exact rfl) | (apply OKx_guardF; exact rfl; exact rfl) | (apply OKx_guardU; exact rfl; exact rfl) | (apply OKx_notT; exact rfl) | (apply OKx_notF; exact rfl) | (apply OKx_boxA; exact rfl; intro _) | (apply OKx_alloc1; intro _) | (apply OKx_stI; exact rfl; exact rfl; (first | exact at0 | exact at1 | exact at2 | exact at3 | exact at4 | exact at5 | exact at6 | exact at7); omega; exact rfl) | (apply OKx_stB; exact rfl; ((conv => lhs; whnf) <;> exact rfl); exact rfl; exact rfl; (first | exact at0 | exact at1 | exact at2 | exact at3 | exact at4 | exact at5 | exact at6 | exact at7); exact rfl; exact rfl; exact rfl) | (apply OKx_box1; ((conv => lhs; whnf) <;> exact rfl); exact rfl; intro _) | (apply OKx_func; exact rfl; exact rfl))
    first | refine bodyQ_r1 (by ((conv => lhs; whnf) <;> exact rfl)) ?_ | refine bodyQ_r2 (by ((conv => lhs; whnf) <;> exact rfl)) (by ((conv => lhs; whnf) <;> exact rfl)) ?_ | refine bodyQ_r3 (by ((conv => lhs; whnf) <;> exact rfl)) (by ((conv => lhs; whnf) <;> exact rfl)) (by ((conv => lhs; whnf) <;> exact rfl)) ?_ | refine bodyQ_r0 ?_ | refine bodyQ_n0 ?_
    exact ⟨_, Ent.nil, int_eq (by rw [hq]; rfl), rfl⟩
  have hr : ∀ j, j < (s.par.getD k []).length → 0 ≤ (s.par.getD k []).getD j 0 ∧ (s.par.getD k []).getD j 0 < k := fun j hj => by
    have hg : s.par.getD k [] = s.par[k] := getD_lt _ _ _ hk
    exact hok k hk _ (by rw [getD_lt _ _ _ hj]; exact hg ▸ List.getElem_mem hj)
  rw [chgB_any] at hs
  have hxi := (hrow k).sl
  generalize hxs : s.par.getD k [] = xs at *
  repeat' (first | (apply OK_seq) | (apply thenQ_n) | (apply OK_region) | (refine OKx_callB (f := 45) (b := xs.any (sameB all k)) rfl rfl rfl (fun w1 hp => by rw [← anyN_any]; exact containsF_int_sat _ _ _ (fun j => sameB all k (xs.getD j 0)) _ _ w1 (hxi.below hp.below) (fun j hj w2 hb2 => chg1_sat _ _ _ all k _ w2 (Pt1.below ⟨_, _, rfl, (hp.boxAt 1 rfl).1 0⟩ hb2) (Pt1.below ⟨_, _, rfl, (hp.boxAt 0 rfl).1 0⟩ hb2) ((ha.below hp.below).below hb2) (hr j hj).1 (by have := hr j hj; omega) (by omega))) ?_ ?_ <;> intro hq2) | (apply OKx_nilK) | (apply OK_block) | (apply blockQ_n) | (apply blockQ_s) | (apply thenQ_e) | (apply blockQ_e; exact rfl) | (apply thenQ_r) | (apply blockQ_r) | (apply OK_condT; exact rfl) | (apply OK_condF; exact rfl) | (apply OK_skip) | (apply OK_exit) | (apply OK_ret) | (apply OKx_move; ((conv => lhs; whnf) <;> exact rfl)) | (apply OKx_assign; ((conv => lhs; whnf) <;> exact rfl)) | (apply OKx_ldB; exact rfl; (first | exact at0 | exact at1 | exact at2 | exact at3 | exact at4 | exact at5 | exact at6 | exact at7); exact rfl) | (apply OKx_ldR; ((conv => lhs; whnf) <;> exact rfl); (with_reducible assumption)) | (apply OKx_len; exact rfl) | (apply OKx_lenR; ((conv => lhs; whnf) <;> exact rfl); (with_reducible assumption)) | (apply OKx_lenR2; ((conv => lhs; whnf) <;> exact rfl); (with_reducible assumption)) | (apply OKx_lenO; ((conv => lhs; whnf) <;> exact rfl); (first | exact at0 | exact at1 | exact at2 | exact at3 | exact at4 | exact at5 | exact at6 | exact at7)) | (apply OKx_lss; exact rfl; exact rfl; all_goals (intro _; try (exfalso; omega))) | (apply OKx_gtr; exact rfl; exact rfl; all_goals (intro _; try (exfalso; omega))) | (apply OKx_idxO; exact rfl; exact rfl; omega) | (apply OKx_idxR; ((conv => lhs; whnf) <;> exact rfl); (with_reducible assumption); exact rfl; omega; intro _ _) | (apply OKx_idxOz; exact rfl; exact rfl; omega; omega) | (apply OKx_idxRz; ((conv => lhs; whnf) <;> exact rfl); (with_reducible assumption); exact rfl; omega; omega; intro _ _) | (apply OKx_fldO; exact rfl; exact rfl) | (apply OKx_fldR; ((conv => lhs; whnf) <;> exact rfl); (with_reducible assumption); decide; intro _ _) | (apply OKx_inc; exact rfl; exact rfl; omega) | (apply OKx_addN; exact rfl; exact rfl; omega) | (apply OKx_add; exact rfl; exact rfl; omega; omega) | (apply OKx_pickT; exact rfl; ((conv => lhs; whnf) <;> exact rfl)) | (apply OKx_pickF; exact rfl; ((conv => lhs; whnf) <;> exact rfl)) | (apply OKx_guardT; exact rfl; exact rfl) | (apply OKx_guardF; exact rfl; exact rfl) | (apply OKx_guardU; exact rfl; exact rfl) | (apply OKx_notT; exact rfl) | (apply OKx_notF; exact rfl) | (apply OKx_boxA; exact rfl; intro _) | (apply OKx_alloc1; intro _) | (apply OKx_stI; exact rfl; exact rfl; (first | exact at0 | exact at1 | exact at2 | exact at3 | exact at4 | exact at5 | exact at6 | exact at7); omega; exact rfl) | (apply OKx_stB; exact rfl; ((conv => lhs; whnf) <;> exact rfl); exact rfl; exact rfl; (first | exact at0 | exact at1 | exact at2 | exact at3 | exact at4 | exact at5 | exact at6 | exact at7); exact rfl; exact rfl; exact rfl) | (apply OKx_box1; ((conv => lhs; whnf) <;> exact rfl); exact rfl; intro _) | (apply OKx_func; exact rfl; exact rfl))
  · rw [decide_eq_true (by omega), hq2, if_neg (by simp)] at hs
    refine ⟨by (repeat' (first | refine agree_upd rfl ?_ | exact agree_over | exact agree_refl _ _ | refine agree_over2 rfl ?_)), m - 1, _, by omega, Ent.pick [1, 2] rfl, ?_⟩
    exact ⟨k + 1, q, by omega, by omega, rfl, rfl, rfl⟩
  · rw [decide_eq_true (by omega), hq2, if_pos (by simp)] at hs
    refine ⟨by (repeat' (first | refine agree_upd rfl ?_ | exact agree_over | exact agree_refl _ _ | refine agree_over2 rfl ?_)), m - 1, _, by omega, Ent.pick [1, 2] rfl, ?_⟩
    exact ⟨k + 1, q + 1, by omega, by omega, rfl, rfl, rfl⟩
  · rw [decide_eq_false (by omega), if_neg (by simp)] at hs
    refine ⟨by (repeat' (first | refine agree_upd rfl ?_ | exact agree_over | exact agree_refl _ _ | refine agree_over2 rfl ?_)), m - 1, _, by omega, Ent.pick [1, 2] rfl, ?_⟩
    exact ⟨k + 1, q, by omega, by omega, rfl, rfl, rfl⟩
def seenC (f : Nat → Nat → Bool) (N : Nat) : List Value := (List.range (N * 16)).map fun q => Value.bool (f (q / 16) (q % 16))
theorem seenC_at (f : Nat → Nat → Bool) (N i x : Nat) (hi : i < N) (hx : x < 16) : (seenC f N)[i * 16 + x]? = some (.bool (f i x)) := by
  have h1 : i * 16 + x < N * 16 := by omega
  have e1 : (i * 16 + x) / 16 = i := by omega
  have e2 : (i * 16 + x) % 16 = x := by omega
  unfold seenC
  simp [h1, e1, e2]
theorem seenC_set (f f' : Nat → Nat → Bool) (N i x : Nat) (hi : i < N) (hx : x < 16) (h : ∀ j y, j < N → y < 16 → f' j y = if j = i ∧ y = x then true else f j y) : (seenC f N).set (i * 16 + x) (.bool true) = seenC f' N := by
  apply List.ext_getElem
  · simp [seenC]
  · intro q h1 h2
    have hq : q < N * 16 := by simpa [seenC] using h2
    have := h (q / 16) (q % 16) (by omega) (by omega)
    rw [List.getElem_set]
    simp only [seenC, List.getElem_map, List.getElem_range, this]
    by_cases e : i * 16 + x = q
    · rw [if_pos e, if_pos ⟨by omega, by omega⟩]
    · rw [if_neg e, if_neg (fun ⟨a, b⟩ => e (by omega))]
theorem seenC_zero (N : Nat) : List.replicate (N * 16) (Value.bool false) = seenC (fun _ _ => false) N := by
  unfold seenC
  apply List.ext_getElem
  · simp
  · intro q h1 h2; simp
def posJ (gs p8 p6 p2 : Nat) (nv ev pv : Value) (s : Stem) (N : Nat) (c : Int) (pre : List (List Int)) (J : List Res) : Prop :=
  J = [.row 99 16 (.slice (some ⟨gs, 0, none⟩) N N) N (seenC (seenB s.par c pre) N), .box 97 p8 [.slice (some ⟨gs, 0, none⟩) N N], .box 3 p6 [.int .i64 c], .box 26 p2 [nv, ev, pv]]
theorem seen_step (par : List (List Int)) (c : Int) (pre : List (List Int)) (o : List Int) (hc : (costN par o : Int) = c) (k i x : Nat) :
    (seenB par c pre i x || (decide (i < k + 1) && (o.getD i 0 == (x : Int)))) = if i = k ∧ (x : Int) = o.getD k 0 then true else (seenB par c pre i x || (decide (i < k) && (o.getD i 0 == (x : Int)))) := by
  by_cases h : i = k ∧ (x : Int) = o.getD k 0
  · obtain ⟨rfl, h2⟩ := h
    rw [if_pos ⟨rfl, h2⟩, ← h2]; simp
  · rw [if_neg h]
    congr 1
    by_cases h1 : i < k
    · rw [decide_eq_true h1, decide_eq_true (by omega)]
    · by_cases h2 : i = k
      · subst h2
        have : (o.getD i 0 == (x : Int)) = false := by rw [beq_eq_false_iff_ne]; intro e; exact h ⟨rfl, e.symm⟩
        rw [this]; simp
      · rw [decide_eq_false h1, decide_eq_false (by omega)]
set_option maxRecDepth 100000 in
set_option maxHeartbeats 4000000 in
theorem each_sat (gs p8s p6 p2 : Nat) (nv ev pv : Value) (s : Stem) (c : Int) (w0 : World) (go co : Nat) (p8 : Nat) (Z : List Res) (o : List Int) (pre : List (List Int)) (J : List Res) (hst : Stm w0 (.agg #[nv, ev, pv]) s) (hl : o.length = s.par.length) (hok : okPar s.par) (hN8 : s.par.length ≤ 1000) (hx : ∀ x ∈ o, 0 ≤ x ∧ x < 16)
    (hJ : posJ gs p8s p6 p2 nv ev pv s s.par.length c pre J) :
    SatL Try.prog 86 [.slice (some ⟨go, 0, none⟩) s.par.length co, .pointer (some ⟨p2, 0, none⟩), .pointer (some ⟨p6, 0, none⟩), .pointer (some ⟨p8s, 0, none⟩)] w0 (rA (.slice (some ⟨go, 0, none⟩) s.par.length co) s.par.length o :: .box 27 p8 [.slice (some ⟨go, 0, none⟩) s.par.length co] :: (J ++ Z))
      (fun u L => u = .tuple #[] ∧ ∃ J', posJ gs p8s p6 p2 nv ev pv s s.par.length c (pre ++ [o]) J' ∧ L = rA (.slice (some ⟨go, 0, none⟩) s.par.length co) s.par.length o :: .box 27 p8 [.slice (some ⟨go, 0, none⟩) s.par.length co] :: (J' ++ Z)) := by
  have hsn := seenB_snoc s.par c pre o
  unfold posJ at hJ
  subst hJ
  simp only [rA, List.cons_append, List.nil_append]
  by_cases hc : (costN s.par o : Int) = c
  rotate_left
  · have hsame : seenC (seenB s.par c (pre ++ [o])) s.par.length = seenC (seenB s.par c pre) s.par.length := by
      unfold seenC
      apply List.map_congr_left
      intro q _
      rw [hsn, decide_eq_false hc]; simp
    refine SatL.of 25 [] Try.func86 (by kernel_rfl) (by kernel_rfl) rfl rfl rfl rfl ?_
    repeat' (first | (apply OK_seq) | (apply thenQ_n) | (apply OK_region) | (refine OKx_callV (f := 87) (v := .int .i64 (costN s.par o : Int)) rfl rfl rfl (fun w1 hp => chg_sat _ _ s o w1 (hst.below hp.below) (hp.ints 0 rfl (by omega)) (by omega) hok) ?_) | refine OK_quiet (id := 0) (by kernel_rfl) (by kernel_rfl) ?_ | (apply OKx_nilK) | (apply OK_block) | (apply blockQ_n) | (apply blockQ_s) | (apply thenQ_e) | (apply blockQ_e; exact rfl) | (apply thenQ_r) | (apply blockQ_r) | (apply OK_condT; exact rfl) | (apply OK_condF; exact rfl) | (apply OK_skip) | (apply OK_exit) | (apply OK_ret) | (apply OKx_move; ((conv => lhs; whnf) <;> exact rfl)) | (apply OKx_assign; ((conv => lhs; whnf) <;> exact rfl)) | (apply OKx_ldB; exact rfl; (first | exact at0 | exact at1 | exact at2 | exact at3 | exact at4 | exact at5 | exact at6 | exact at7); exact rfl) | (apply OKx_ldR; ((conv => lhs; whnf) <;> exact rfl); (with_reducible assumption)) | (apply OKx_ldI; exact rfl; (first | exact at0 | exact at1 | exact at2 | exact at3 | exact at4 | exact at5 | exact at6 | exact at7); omega) | (apply OKx_len; exact rfl) | (apply OKx_lenR; ((conv => lhs; whnf) <;> exact rfl); (with_reducible assumption)) | (apply OKx_lenR2; ((conv => lhs; whnf) <;> exact rfl); (with_reducible assumption)) | (apply OKx_lenO; ((conv => lhs; whnf) <;> exact rfl); (first | exact at0 | exact at1 | exact at2 | exact at3 | exact at4 | exact at5 | exact at6 | exact at7)) | (apply OKx_lss; exact rfl; exact rfl; all_goals (intro _; try (exfalso; omega))) | (apply OKx_eql; exact rfl; exact rfl; all_goals (intro _; try (exfalso; omega))) | (apply OKx_idxO; exact rfl; exact rfl; omega) | (apply OKx_idxR; ((conv => lhs; whnf) <;> exact rfl); (with_reducible assumption); exact rfl; omega; intro _ _) | (apply OKx_idxR2; ((conv => lhs; whnf) <;> exact rfl); (with_reducible assumption); exact rfl; omega; intro _ _) | (apply OKx_idxOz; exact rfl; exact rfl; omega; omega) | (apply OKx_idxRz; ((conv => lhs; whnf) <;> exact rfl); (with_reducible assumption); exact rfl; omega; omega; intro _ _) | (apply OKx_inc; exact rfl; exact rfl; omega) | (apply OKx_addN; exact rfl; exact rfl; omega) | (apply OKx_add; exact rfl; exact rfl; omega; omega) | (apply OKx_ldBA; exact rfl; (first | exact at0 | exact at1 | exact at2 | exact at3 | exact at4 | exact at5 | exact at6 | exact at7); exact rfl) | (apply OKx_ldRA; ((conv => lhs; whnf) <;> exact rfl); (with_reducible assumption)) | (apply OKx_stB; exact rfl; ((conv => lhs; whnf) <;> exact rfl); exact rfl; exact rfl; (first | exact at0 | exact at1 | exact at2 | exact at3 | exact at4 | exact at5 | exact at6 | exact at7); exact rfl; exact rfl; exact rfl) | (apply OKx_stBo; exact rfl; exact rfl; (first | exact at0 | exact at1 | exact at2 | exact at3 | exact at4 | exact at5 | exact at6 | exact at7); omega; exact rfl))
    first | refine bodyQ_r0 ?_ | refine bodyQ_n0 ?_
    exact ⟨_, Ent.refl _ _, rfl, _, by unfold posJ; rw [hsame], rfl⟩
  have hst2 := seen_step s.par c pre o hc
  have hf0 : seenC (fun i x => seenB s.par c pre i x || (decide (i < 0) && (o.getD i 0 == (x : Int)))) s.par.length = seenC (seenB s.par c pre) s.par.length := by
    unfold seenC
    apply List.map_congr_left
    intro q _
    simp
  have hfN : seenC (fun i x => seenB s.par c pre i x || (decide (i < s.par.length) && (o.getD i 0 == (x : Int)))) s.par.length = seenC (seenB s.par c (pre ++ [o])) s.par.length := by
    unfold seenC
    apply List.map_congr_left
    intro q hq
    have hq := List.mem_range.1 hq
    dsimp only
    rw [hsn, decide_eq_true hc, decide_eq_true (show q / 16 < s.par.length by omega)]
  have hset := fun k (hk : k < s.par.length) => seenC_set (fun i x => seenB s.par c pre i x || (decide (i < k) && (o.getD i 0 == (x : Int)))) (fun i x => seenB s.par c pre i x || (decide (i < k + 1) && (o.getD i 0 == (x : Int)))) s.par.length k (o.getD k 0).toNat hk
    (by have := hx _ (getD_mem o k 0 (by omega)); omega) (fun j y _ _ => by
      have := hx _ (getD_mem o k 0 (by omega))
      rw [hst2 k j y]
      by_cases e : j = k ∧ y = (o.getD k 0).toNat
      · rw [if_pos e, if_pos ⟨e.1, by omega⟩]
      · rw [if_neg e, if_neg (fun ⟨a, b⟩ => e ⟨a, by omega⟩)])
  refine SatL.of 25 [] Try.func86 (by kernel_rfl) (by kernel_rfl) rfl rfl rfl rfl ?_
  repeat' (first | (apply OK_seq) | (apply thenQ_n) | (apply OK_region) | (refine OKx_callV (f := 87) (v := .int .i64 (costN s.par o : Int)) rfl rfl rfl (fun w1 hp => chg_sat _ _ s o w1 (hst.below hp.below) (hp.ints 0 rfl (by omega)) (by omega) hok) ?_) | refine OK_quiet (id := 0) (by kernel_rfl) (by kernel_rfl) ?_ | (apply OKx_nilK) | (apply OK_block) | (apply blockQ_n) | (apply blockQ_s) | (apply thenQ_e) | (apply blockQ_e; exact rfl) | (apply thenQ_r) | (apply blockQ_r) | (apply OK_condT; exact rfl) | (apply OK_condF; exact rfl) | (apply OK_skip) | (apply OK_exit) | (apply OK_ret) | (apply OKx_move; ((conv => lhs; whnf) <;> exact rfl)) | (apply OKx_assign; ((conv => lhs; whnf) <;> exact rfl)) | (apply OKx_ldB; exact rfl; (first | exact at0 | exact at1 | exact at2 | exact at3 | exact at4 | exact at5 | exact at6 | exact at7); exact rfl) | (apply OKx_ldR; ((conv => lhs; whnf) <;> exact rfl); (with_reducible assumption)) | (apply OKx_ldI; exact rfl; (first | exact at0 | exact at1 | exact at2 | exact at3 | exact at4 | exact at5 | exact at6 | exact at7); omega) | (apply OKx_len; exact rfl) | (apply OKx_lenR; ((conv => lhs; whnf) <;> exact rfl); (with_reducible assumption)) | (apply OKx_lenR2; ((conv => lhs; whnf) <;> exact rfl); (with_reducible assumption)) | (apply OKx_lenO; ((conv => lhs; whnf) <;> exact rfl); (first | exact at0 | exact at1 | exact at2 | exact at3 | exact at4 | exact at5 | exact at6 | exact at7)) | (apply OKx_lss; exact rfl; exact rfl; all_goals (intro _; try (exfalso; omega))) | (apply OKx_eql; exact rfl; exact rfl; all_goals (intro _; try (exfalso; omega))) | (apply OKx_idxO; exact rfl; exact rfl; omega) | (apply OKx_idxR; ((conv => lhs; whnf) <;> exact rfl); (with_reducible assumption); exact rfl; omega; intro _ _) | (apply OKx_idxR2; ((conv => lhs; whnf) <;> exact rfl); (with_reducible assumption); exact rfl; omega; intro _ _) | (apply OKx_idxOz; exact rfl; exact rfl; omega; omega) | (apply OKx_idxRz; ((conv => lhs; whnf) <;> exact rfl); (with_reducible assumption); exact rfl; omega; omega; intro _ _) | (apply OKx_inc; exact rfl; exact rfl; omega) | (apply OKx_addN; exact rfl; exact rfl; omega) | (apply OKx_add; exact rfl; exact rfl; omega; omega) | (apply OKx_ldBA; exact rfl; (first | exact at0 | exact at1 | exact at2 | exact at3 | exact at4 | exact at5 | exact at6 | exact at7); exact rfl) | (apply OKx_ldRA; ((conv => lhs; whnf) <;> exact rfl); (with_reducible assumption)) | (apply OKx_stB; exact rfl; ((conv => lhs; whnf) <;> exact rfl); exact rfl; exact rfl; (first | exact at0 | exact at1 | exact at2 | exact at3 | exact at4 | exact at5 | exact at6 | exact at7); exact rfl; exact rfl; exact rfl) | (apply OKx_stBo; exact rfl; exact rfl; (first | exact at0 | exact at1 | exact at2 | exact at3 | exact at4 | exact at5 | exact at6 | exact at7); omega; exact rfl))
  refine OK_loop1 14 [5, 6, 14, 15, 16, 17, 18, 19, 20, 21, 22, 23, 24] (fun m v L => ∃ k : Nat, k + m = s.par.length ∧ v = .int .i64 (k : Int) ∧ L = .row 3 1 (.slice (some ⟨go, 0, none⟩) s.par.length co) s.par.length (ints o) :: .box 27 p8 [.slice (some ⟨go, 0, none⟩) s.par.length co] ::
    .row 99 16 (.slice (some ⟨gs, 0, none⟩) s.par.length s.par.length) s.par.length (seenC (fun i x => seenB s.par c pre i x || (decide (i < k) && (o.getD i 0 == (x : Int)))) s.par.length) :: .box 97 p8s [.slice (some ⟨gs, 0, none⟩) s.par.length s.par.length] :: .box 3 p6 [.int .i64 c] :: .box 26 p2 [nv, ev, pv] :: Z) s.par.length _ (Ent.refl _ _)
    ⟨0, by omega, rfl, by rw [hf0]⟩ ?_
  rintro m v L G ⟨k, hm, rfl, rfl⟩
  by_cases hk : k < s.par.length
  · have hxk := hx _ (getD_mem o k 0 (by omega))
    have hsk := hset k hk
    repeat' (first | (apply OK_seq) | (apply thenQ_n) | (apply OK_region) | (refine OKx_idxOn (sz := 16) rfl rfl (by omega) ?_) | (refine OKx_idxAz Try.underlying99 rfl rfl (by omega) (by omega) ?_) | (refine OKx_stWs 2 rfl rfl rfl rfl rfl (by omega) hsk rfl ?_) | refine OK_quiet (id := 0) (by kernel_rfl) (by kernel_rfl) ?_ | (apply OKx_nilK) | (apply OK_block) | (apply blockQ_n) | (apply blockQ_s) | (apply thenQ_e) | (apply blockQ_e; exact rfl) | (apply thenQ_r) | (apply blockQ_r) | (apply OK_condT; exact rfl) | (apply OK_condF; exact rfl) | (apply OK_skip) | (apply OK_exit) | (apply OK_ret) | (apply OKx_move; ((conv => lhs; whnf) <;> exact rfl)) | (apply OKx_assign; ((conv => lhs; whnf) <;> exact rfl)) | (apply OKx_ldB; exact rfl; (first | exact at0 | exact at1 | exact at2 | exact at3 | exact at4 | exact at5 | exact at6 | exact at7); exact rfl) | (apply OKx_ldR; ((conv => lhs; whnf) <;> exact rfl); (with_reducible assumption)) | (apply OKx_ldI; exact rfl; (first | exact at0 | exact at1 | exact at2 | exact at3 | exact at4 | exact at5 | exact at6 | exact at7); omega) | (apply OKx_len; exact rfl) | (apply OKx_lenR; ((conv => lhs; whnf) <;> exact rfl); (with_reducible assumption)) | (apply OKx_lenR2; ((conv => lhs; whnf) <;> exact rfl); (with_reducible assumption)) | (apply OKx_lenO; ((conv => lhs; whnf) <;> exact rfl); (first | exact at0 | exact at1 | exact at2 | exact at3 | exact at4 | exact at5 | exact at6 | exact at7)) | (apply OKx_lss; exact rfl; exact rfl; all_goals (intro _; try (exfalso; omega))) | (apply OKx_eql; exact rfl; exact rfl; all_goals (intro _; try (exfalso; omega))) | (apply OKx_idxO; exact rfl; exact rfl; omega) | (apply OKx_idxR; ((conv => lhs; whnf) <;> exact rfl); (with_reducible assumption); exact rfl; omega; intro _ _) | (apply OKx_idxR2; ((conv => lhs; whnf) <;> exact rfl); (with_reducible assumption); exact rfl; omega; intro _ _) | (apply OKx_idxOz; exact rfl; exact rfl; omega; omega) | (apply OKx_idxRz; ((conv => lhs; whnf) <;> exact rfl); (with_reducible assumption); exact rfl; omega; omega; intro _ _) | (apply OKx_inc; exact rfl; exact rfl; omega) | (apply OKx_addN; exact rfl; exact rfl; omega) | (apply OKx_add; exact rfl; exact rfl; omega; omega) | (apply OKx_ldBA; exact rfl; (first | exact at0 | exact at1 | exact at2 | exact at3 | exact at4 | exact at5 | exact at6 | exact at7); exact rfl) | (apply OKx_ldRA; ((conv => lhs; whnf) <;> exact rfl); (with_reducible assumption)) | (apply OKx_stB; exact rfl; ((conv => lhs; whnf) <;> exact rfl); exact rfl; exact rfl; (first | exact at0 | exact at1 | exact at2 | exact at3 | exact at4 | exact at5 | exact at6 | exact at7); exact rfl; exact rfl; exact rfl) | (apply OKx_stBo; exact rfl; exact rfl; (first | exact at0 | exact at1 | exact at2 | exact at3 | exact at4 | exact at5 | exact at6 | exact at7); omega; exact rfl))
    refine ⟨by (repeat' (first | refine agree_upd rfl ?_ | exact agree_over | exact agree_refl _ _ | refine agree_over2 rfl ?_)), m - 1, _, by omega, Ent.refl _ _, ?_⟩
    exact ⟨k + 1, by omega, rfl, rfl⟩
  · obtain rfl : k = s.par.length := by omega
    repeat' (first | (apply OK_seq) | (apply thenQ_n) | (apply OK_region) | refine OK_quiet (id := 0) (by kernel_rfl) (by kernel_rfl) ?_ | (apply OKx_nilK) | (apply OK_block) | (apply blockQ_n) | (apply blockQ_s) | (apply thenQ_e) | (apply blockQ_e; exact rfl) | (apply thenQ_r) | (apply blockQ_r) | (apply OK_condT; exact rfl) | (apply OK_condF; exact rfl) | (apply OK_skip) | (apply OK_exit) | (apply OK_ret) | (apply OKx_move; ((conv => lhs; whnf) <;> exact rfl)) | (apply OKx_assign; ((conv => lhs; whnf) <;> exact rfl)) | (apply OKx_ldB; exact rfl; (first | exact at0 | exact at1 | exact at2 | exact at3 | exact at4 | exact at5 | exact at6 | exact at7); exact rfl) | (apply OKx_ldR; ((conv => lhs; whnf) <;> exact rfl); (with_reducible assumption)) | (apply OKx_ldI; exact rfl; (first | exact at0 | exact at1 | exact at2 | exact at3 | exact at4 | exact at5 | exact at6 | exact at7); omega) | (apply OKx_len; exact rfl) | (apply OKx_lenR; ((conv => lhs; whnf) <;> exact rfl); (with_reducible assumption)) | (apply OKx_lenR2; ((conv => lhs; whnf) <;> exact rfl); (with_reducible assumption)) | (apply OKx_lenO; ((conv => lhs; whnf) <;> exact rfl); (first | exact at0 | exact at1 | exact at2 | exact at3 | exact at4 | exact at5 | exact at6 | exact at7)) | (apply OKx_lss; exact rfl; exact rfl; all_goals (intro _; try (exfalso; omega))) | (apply OKx_eql; exact rfl; exact rfl; all_goals (intro _; try (exfalso; omega))) | (apply OKx_idxO; exact rfl; exact rfl; omega) | (apply OKx_idxR; ((conv => lhs; whnf) <;> exact rfl); (with_reducible assumption); exact rfl; omega; intro _ _) | (apply OKx_idxR2; ((conv => lhs; whnf) <;> exact rfl); (with_reducible assumption); exact rfl; omega; intro _ _) | (apply OKx_idxOz; exact rfl; exact rfl; omega; omega) | (apply OKx_idxRz; ((conv => lhs; whnf) <;> exact rfl); (with_reducible assumption); exact rfl; omega; omega; intro _ _) | (apply OKx_inc; exact rfl; exact rfl; omega) | (apply OKx_addN; exact rfl; exact rfl; omega) | (apply OKx_add; exact rfl; exact rfl; omega; omega) | (apply OKx_ldBA; exact rfl; (first | exact at0 | exact at1 | exact at2 | exact at3 | exact at4 | exact at5 | exact at6 | exact at7); exact rfl) | (apply OKx_ldRA; ((conv => lhs; whnf) <;> exact rfl); (with_reducible assumption)) | (apply OKx_stB; exact rfl; ((conv => lhs; whnf) <;> exact rfl); exact rfl; exact rfl; (first | exact at0 | exact at1 | exact at2 | exact at3 | exact at4 | exact at5 | exact at6 | exact at7); exact rfl; exact rfl; exact rfl) | (apply OKx_stBo; exact rfl; exact rfl; (first | exact at0 | exact at1 | exact at2 | exact at3 | exact at4 | exact at5 | exact at6 | exact at7); omega; exact rfl))
    first | refine bodyQ_r0 ?_ | refine bodyQ_n0 ?_
    exact ⟨_, Ent.refl _ _, rfl, _, by unfold posJ; rw [← hfN], rfl⟩
def PosR (s : Stem) (st : List Int) (w0 : World) (u : Value) (L : List Res) : Prop :=
  (scE s st ≠ 0 ∧ u = .tuple #[.slice none 0 0, .int .i64 (scE s st)] ∧ L = []) ∨
  (scE s st = 0 ∧ ∃ g c vs Z, u = .tuple #[.slice (some ⟨g, 0, none⟩) st.length c, .int .i64 0] ∧ vs.length = st.length ∧ (∀ w0 w, Hp w0.heap.size w0 w Z → ∀ j, j < st.length → Ints w (vs.getD j undef) (posL s st j)) ∧ L = .row 27 1 (.slice (some ⟨g, 0, none⟩) st.length c) st.length vs :: Z)
def filtK (f : Nat → Bool) (k : Nat) : List Int := ((List.range k).filter f).map (fun x : Nat => (x : Int))
theorem filtK_step (f : Nat → Bool) (k : Nat) : filtK f (k + 1) = filtK f k ++ if f k = true then [(k : Int)] else [] := by
  unfold filtK
  rw [List.range_succ, List.filter_append, List.map_append]
  congr 1
  by_cases h : f k = true
  · rw [if_pos h, List.filter_cons_of_pos h]; rfl
  · rw [if_neg h, List.filter_cons_of_neg h]; rfl
theorem filtK_len (f : Nat → Bool) (k : Nat) : (filtK f k).length ≤ k := by
  unfold filtK
  rw [List.length_map]
  exact Nat.le_trans (List.length_filter_le _ _) (by simp)
theorem getD_snoc {α : Type} (l : List α) (a d : α) (j : Nat) : (l ++ [a]).getD j d = if j < l.length then l.getD j d else if j = l.length then a else d := by
  by_cases h : j < l.length
  · rw [if_pos h]; simp [List.getD_eq_getElem?_getD, List.getElem?_append_left h]
  · rw [if_neg h]
    by_cases h2 : j = l.length
    · subst h2; simp
    · rw [if_neg h2, getD_ge _ _ _ (by simp; omega)]
theorem scE_inv {s : Stem} {st : List Int} (h : scE s st = 0) : chkC s st = 0 ∧ many st = false := by
  unfold scE at h
  split at h
  · omega
  · split at h
    · omega
    · rename_i h1 h2
      exact ⟨by omega, by simpa using h2⟩
set_option maxRecDepth 100000 in
set_option maxHeartbeats 4000000 in
theorem Poss39_sat (v sv : Value) (s : Stem) (st : List Int) (wb w : World) (hb0 : Below wb.heap.size wb w) (hh : Stm wb v s) (hhs : Ints wb sv st) : Sat Try.prog 52 [v, sv] w (PosR s st wb) := by
  have h := hh.below hb0
  have hs := hhs.below hb0
  clear hh hhs
  have hst := h
  obtain ⟨nv, ev, pv, rfl, _, _, _⟩ := h
  have hsv := hs.sl
  have hsb := hsv.bound
  by_cases he : scE s st = 0
  rotate_left
  · have hn := scN_bad he
    refine SatL.of 54 [4, 5] Try.func52 (by kernel_rfl) (by kernel_rfl) rfl rfl rfl rfl ?_
    repeat' (first | (apply OK_seq) | (apply thenQ_n) | (apply OK_region) | (refine OKx_callV (f := 17) (v := .tuple #[.int .i64 (scN s st), .int .i64 (scE s st)]) rfl rfl rfl (fun w1 hp => Score_sat _ _ s st w1 (hst.below hp.below) (hs.below hp.below)) ?_) | (apply OKx_nilK) | (apply OK_block) | (apply blockQ_n) | (apply blockQ_s) | (apply thenQ_e) | (apply blockQ_e; exact rfl) | (apply thenQ_r) | (apply blockQ_r) | (apply OK_condT; exact rfl) | (apply OK_condF; exact rfl) | (apply OK_skip) | (apply OK_exit) | (apply OK_ret) | (apply OKx_move; ((conv => lhs; whnf) <;> exact rfl)) | (apply OKx_assign; ((conv => lhs; whnf) <;> exact rfl)) | (apply OKx_ldB; exact rfl; (first | exact at0 | exact at1 | exact at2 | exact at3 | exact at4 | exact at5 | exact at6 | exact at7); exact rfl) | (apply OKx_ldR; ((conv => lhs; whnf) <;> exact rfl); (with_reducible assumption)) | (apply OKx_len; exact rfl) | (apply OKx_lenR; ((conv => lhs; whnf) <;> exact rfl); (with_reducible assumption)) | (apply OKx_lenR2; ((conv => lhs; whnf) <;> exact rfl); (with_reducible assumption)) | (apply OKx_lenO; ((conv => lhs; whnf) <;> exact rfl); (first | exact at0 | exact at1 | exact at2 | exact at3 | exact at4 | exact at5 | exact at6 | exact at7)) | (apply OKx_lss; exact rfl; exact rfl; all_goals (intro _; try (exfalso; omega))) | (apply OKx_neq; exact rfl; exact rfl; all_goals (intro _; try (exfalso; omega))) | (apply OKx_idxR2; ((conv => lhs; whnf) <;> exact rfl); (with_reducible assumption); exact rfl; omega; intro _ _) | (apply OKx_idxS; exact rfl; exact rfl; omega) | (apply OKx_inc; exact rfl; exact rfl; omega) | (apply OKx_addN; exact rfl; exact rfl; omega) | (apply OKx_add; exact rfl; exact rfl; omega; omega) | (apply OKx_extract; exact rfl; ((conv => lhs; whnf) <;> exact rfl)) | (apply OKx_boxA; exact rfl; intro _) | (apply OKx_alloc1; intro _) | (apply OKx_ldBA; exact rfl; (first | exact at0 | exact at1 | exact at2 | exact at3 | exact at4 | exact at5 | exact at6 | exact at7); exact rfl) | (apply OKx_ldRA; ((conv => lhs; whnf) <;> exact rfl); (with_reducible assumption)) | (apply OKx_stI; exact rfl; exact rfl; (first | exact at0 | exact at1 | exact at2 | exact at3 | exact at4 | exact at5 | exact at6 | exact at7); omega; exact rfl) | (apply OKx_stB; exact rfl; ((conv => lhs; whnf) <;> exact rfl); exact rfl; exact rfl; (first | exact at0 | exact at1 | exact at2 | exact at3 | exact at4 | exact at5 | exact at6 | exact at7); exact rfl; exact rfl; exact rfl) | (apply OKx_slit1; ((conv => lhs; whnf) <;> exact rfl); exact rfl; intro _) | (apply OKx_func; exact rfl; exact rfl))
    first | refine bodyQ_r1 (by ((conv => lhs; whnf) <;> exact rfl)) ?_ | refine bodyQ_r2 (by ((conv => lhs; whnf) <;> exact rfl)) (by ((conv => lhs; whnf) <;> exact rfl)) ?_ | refine bodyQ_r3 (by ((conv => lhs; whnf) <;> exact rfl)) (by ((conv => lhs; whnf) <;> exact rfl)) (by ((conv => lhs; whnf) <;> exact rfl)) ?_ | refine bodyQ_r0 ?_ | refine bodyQ_n0 ?_
    exact ⟨_, Ent.nil, .inl ⟨he, rfl, rfl⟩⟩
  obtain ⟨hc, hm⟩ := scE_inv he
  obtain ⟨hc1, hc2, hc3⟩ := chkC_zero hc
  have hlen := stCheck_len s hc1
  have hok := stCheck_okPar s hc1
  have hsn := scN_ok he
  have hmem := asgH_mem st (fun x hx => (hc3 x hx).2)
  have hval : ∀ o, o ∈ asgH st → o.length = s.par.length ∧ ∀ x ∈ o, 0 ≤ x ∧ x < 16 := fun o ho => by
    have h1 := (asgs_mem _ _ _).1 ((hmem o).1 ho)
    refine ⟨by omega, fun x hx => ?_⟩
    obtain ⟨j, hj, rfl⟩ := List.getElem_of_mem hx
    have h2 := h1.2 j (by omega)
    rw [getD_lt _ _ _ hj] at h2
    split at h2
    · exact occ_range st _ h2
    · have := hc3 _ (getD_mem st j 0 (by omega))
      omega
  have hseen : ∀ i x, seenB s.par (best1 s st).2 (asgH st) i x = seenB s.par (best1 s st).2 (asgs (occ st) st) i x := seenB_congr _ _ _ _ hmem
  generalize hb : (best1 s st).2 = c at *
  have hpos : ∀ i, posL s st i = filtK (seenB s.par c (asgH st) i) 16 := fun i => by
    unfold posL filtK
    rw [hb]
    congr 1
    apply List.filter_congr
    intro x _
    rw [hseen]
  have hasg : ∀ gs p8 p6 p2, SatL Try.prog 85 [sv, .func (.func 86) #[] [Value.pointer (some ⟨p2, 0, none⟩), .pointer (some ⟨p6, 0, none⟩), .pointer (some ⟨p8, 0, none⟩)].toArray] w
      [.row 99 16 (.slice (some ⟨gs, 0, none⟩) s.par.length s.par.length) s.par.length (seenC (fun _ _ => false) s.par.length), .box 97 p8 [.slice (some ⟨gs, 0, none⟩) s.par.length s.par.length], .box 3 p6 [.int .i64 c], .box 26 p2 [nv, ev, pv]]
      (fun u L => u = .tuple #[] ∧ posJ gs p8 p6 p2 nv ev pv s s.par.length c (asgH st) L) := fun gs p8 p6 p2 =>
    asgA_sat _ _ sv st w _ (posJ gs p8 p6 p2 nv ev pv s s.par.length c) hs (by omega) rfl (fun ov q8 Z o pre J hov ho hv hJ => by
      obtain ⟨g, co, rfl⟩ := hov (by omega)
      rw [hc2]
      exact each_sat gs p8 p6 p2 nv ev pv s c w g co q8 Z o pre J hst (hval o hv).1 hok (by omega) (hval o hv).2 hJ)
  unfold PosR
  rw [hc2] at hsv hsb ⊢
  generalize hF : seenB s.par c (asgH st) = f at *
  generalize hNN : s.par.length = N at *
  refine SatL.of 54 [4, 5] Try.func52 (by kernel_rfl) (by kernel_rfl) rfl rfl rfl rfl ?_
  repeat' (first | (apply OK_seq) | (apply thenQ_n) | (apply OK_region) | (refine OKx_callV (f := 17) (v := .tuple #[.int .i64 c, .int .i64 0]) rfl rfl rfl (fun w1 hp => by rw [← hsn, ← he]; exact Score_sat _ _ s st w1 (hst.below hp.below) (hs.below hp.below)) ?_) | (refine OKx_makeN (sz := 16) (.bool false) rfl rfl rfl rfl (by omega) (by omega) ?_; intro gs; rw [seenC_zero]) | (refine OKx_callL (f := 85) rfl rfl ((hasg _ _ _ _).pre (Ent.pick [1, 0, 2, 3] rfl)) ?_; rintro _ _ ⟨rfl, hJ⟩; unfold posJ at hJ; subst hJ) | (apply OKx_nilK) | (apply OK_block) | (apply blockQ_n) | (apply blockQ_s) | (apply thenQ_e) | (apply blockQ_e; exact rfl) | (apply thenQ_r) | (apply blockQ_r) | (apply OK_condT; exact rfl) | (apply OK_condF; exact rfl) | (apply OK_skip) | (apply OK_exit) | (apply OK_ret) | (apply OKx_move; ((conv => lhs; whnf) <;> exact rfl)) | (apply OKx_assign; ((conv => lhs; whnf) <;> exact rfl)) | (apply OKx_ldB; exact rfl; (first | exact at0 | exact at1 | exact at2 | exact at3 | exact at4 | exact at5 | exact at6 | exact at7); exact rfl) | (apply OKx_ldR; ((conv => lhs; whnf) <;> exact rfl); (with_reducible assumption)) | (apply OKx_len; exact rfl) | (apply OKx_lenR; ((conv => lhs; whnf) <;> exact rfl); (with_reducible assumption)) | (apply OKx_lenR2; ((conv => lhs; whnf) <;> exact rfl); (with_reducible assumption)) | (apply OKx_lenO; ((conv => lhs; whnf) <;> exact rfl); (first | exact at0 | exact at1 | exact at2 | exact at3 | exact at4 | exact at5 | exact at6 | exact at7)) | (apply OKx_lss; exact rfl; exact rfl; all_goals (intro _; try (exfalso; omega))) | (apply OKx_neq; exact rfl; exact rfl; all_goals (intro _; try (exfalso; omega))) | (apply OKx_idxR2; ((conv => lhs; whnf) <;> exact rfl); (with_reducible assumption); exact rfl; omega; intro _ _) | (apply OKx_idxS; exact rfl; exact rfl; omega) | (apply OKx_inc; exact rfl; exact rfl; omega) | (apply OKx_addN; exact rfl; exact rfl; omega) | (apply OKx_add; exact rfl; exact rfl; omega; omega) | (apply OKx_extract; exact rfl; ((conv => lhs; whnf) <;> exact rfl)) | (apply OKx_boxA; exact rfl; intro _) | (apply OKx_alloc1; intro _) | (apply OKx_ldBA; exact rfl; (first | exact at0 | exact at1 | exact at2 | exact at3 | exact at4 | exact at5 | exact at6 | exact at7); exact rfl) | (apply OKx_ldRA; ((conv => lhs; whnf) <;> exact rfl); (with_reducible assumption)) | (apply OKx_stI; exact rfl; exact rfl; (first | exact at0 | exact at1 | exact at2 | exact at3 | exact at4 | exact at5 | exact at6 | exact at7); omega; exact rfl) | (apply OKx_stB; exact rfl; ((conv => lhs; whnf) <;> exact rfl); exact rfl; exact rfl; (first | exact at0 | exact at1 | exact at2 | exact at3 | exact at4 | exact at5 | exact at6 | exact at7); exact rfl; exact rfl; exact rfl) | (apply OKx_slit1; ((conv => lhs; whnf) <;> exact rfl); exact rfl; intro _) | (apply OKx_func; exact rfl; exact rfl))
  rw [hF]
  rename_i g2 g6 _ g8
  refine OK_loop2 9 31 [9, 10, 11, 12, 13, 31, 32, 33, 34, 35, 36, 37, 38, 39, 40, 41, 42, 43, 44, 45, 46, 47, 48, 49, 50, 51, 52] (fun m u v L => ∃ (k : Nat) (oa : Option Addr) (oc : Nat) (vs : List Value) (Z : List Res), k + m = N ∧ u = .slice oa k oc ∧ v = .int .i64 (k : Int) ∧ (0 < k → ∃ g, oa = some ⟨g, 0, none⟩) ∧ vs.length = k ∧ (∀ w0 w1, Hp w0.heap.size w0 w1 Z → ∀ j, j < k → Ints w1 (vs.getD j undef) (filtK (f j) 16)) ∧
    L = .row 27 1 (.slice oa k oc) k vs :: .row 99 16 (.slice (some ⟨gs, 0, none⟩) N N) N (seenC f N) :: .box 97 g8 [.slice (some ⟨gs, 0, none⟩) N N] :: .box 3 g6 [.int .i64 c] :: .box 26 g2 [nv, ev, pv] :: Z) N _
    (Ent.mk fun w1 hp => hp.nil 27 1) ⟨0, none, 0, [], [], by omega, rfl, rfl, fun h => absurd h (by omega), rfl, fun _ _ _ j hj => absurd hj (by omega), rfl⟩ ?_
  rintro m u v L G ⟨k, oa, oc, vs, Z, hm', rfl, rfl, hoa, hvs, hZ, rfl⟩
  by_cases hk : k < N
  · have hat := seenC_at f N k
    have hfs := filtK_step (f k)
    have hfl := filtK_len (f k)
    have hag : ∀ x b, x < 16 → f k x = b → ((List.range 16).map (fun x => Value.bool (f k x))).toArray[x]? = some (.bool b) := fun x b hx hb => by simp [hx, hb]
    repeat' (first | (apply OK_seq) | (apply thenQ_n) | (apply OK_region) | (refine OKx_idxOn (sz := 16) rfl rfl (by omega) ?_) | (refine OKx_ldWA 1 (vs := (List.range 16).map (fun x => Value.bool (f k x))) rfl rfl (by omega) rfl (fun j hj => by rw [hat j hk hj]; simp [hj]) ?_) | (apply OKx_nilK) | (apply OK_block) | (apply blockQ_n) | (apply blockQ_s) | (apply thenQ_e) | (apply blockQ_e; exact rfl) | (apply thenQ_r) | (apply blockQ_r) | (apply OK_condT; exact rfl) | (apply OK_condF; exact rfl) | (apply OK_skip) | (apply OK_exit) | (apply OK_ret) | (apply OKx_move; ((conv => lhs; whnf) <;> exact rfl)) | (apply OKx_assign; ((conv => lhs; whnf) <;> exact rfl)) | (apply OKx_ldB; exact rfl; (first | exact at0 | exact at1 | exact at2 | exact at3 | exact at4 | exact at5 | exact at6 | exact at7); exact rfl) | (apply OKx_ldR; ((conv => lhs; whnf) <;> exact rfl); (with_reducible assumption)) | (apply OKx_len; exact rfl) | (apply OKx_lenR; ((conv => lhs; whnf) <;> exact rfl); (with_reducible assumption)) | (apply OKx_lenR2; ((conv => lhs; whnf) <;> exact rfl); (with_reducible assumption)) | (apply OKx_lenO; ((conv => lhs; whnf) <;> exact rfl); (first | exact at0 | exact at1 | exact at2 | exact at3 | exact at4 | exact at5 | exact at6 | exact at7)) | (apply OKx_lss; exact rfl; exact rfl; all_goals (intro _; try (exfalso; omega))) | (apply OKx_neq; exact rfl; exact rfl; all_goals (intro _; try (exfalso; omega))) | (apply OKx_idxR2; ((conv => lhs; whnf) <;> exact rfl); (with_reducible assumption); exact rfl; omega; intro _ _) | (apply OKx_idxS; exact rfl; exact rfl; omega) | (apply OKx_inc; exact rfl; exact rfl; omega) | (apply OKx_addN; exact rfl; exact rfl; omega) | (apply OKx_add; exact rfl; exact rfl; omega; omega) | (apply OKx_extract; exact rfl; ((conv => lhs; whnf) <;> exact rfl)) | (apply OKx_boxA; exact rfl; intro _) | (apply OKx_alloc1; intro _) | (apply OKx_ldBA; exact rfl; (first | exact at0 | exact at1 | exact at2 | exact at3 | exact at4 | exact at5 | exact at6 | exact at7); exact rfl) | (apply OKx_ldRA; ((conv => lhs; whnf) <;> exact rfl); (with_reducible assumption)) | (apply OKx_stI; exact rfl; exact rfl; (first | exact at0 | exact at1 | exact at2 | exact at3 | exact at4 | exact at5 | exact at6 | exact at7); omega; exact rfl) | (apply OKx_stB; exact rfl; ((conv => lhs; whnf) <;> exact rfl); exact rfl; exact rfl; (first | exact at0 | exact at1 | exact at2 | exact at3 | exact at4 | exact at5 | exact at6 | exact at7); exact rfl; exact rfl; exact rfl) | (apply OKx_slit1; ((conv => lhs; whnf) <;> exact rfl); exact rfl; intro _) | (apply OKx_func; exact rfl; exact rfl))
    refine OK_loop2 11 38 [11, 12, 13, 38, 39, 40, 41, 42, 43, 44, 45, 46, 47] (fun m' u v L => ∃ (x n : Nat) (la : Option Addr) (lc : Nat), x + m' = 16 ∧ n = (filtK (f k) x).length ∧ u = .slice la n lc ∧ v = .int .i64 (x : Int) ∧
      L = .row 3 1 (.slice la n lc) n (ints (filtK (f k) x)) :: .row 27 1 (.slice oa k oc) k vs :: .row 99 16 (.slice (some ⟨gs, 0, none⟩) N N) N (seenC f N) :: .box 97 g8 [.slice (some ⟨gs, 0, none⟩) N N] :: .box 3 g6 [.int .i64 c] :: .box 26 g2 [nv, ev, pv] :: Z) 16 _
      (Ent.mk fun w1 hp => hp.nil 3 1) ⟨0, 0, none, 0, by omega, rfl, rfl, rfl, rfl⟩ ?_
    rintro m2 u v L G2 ⟨x, n, la, lc, hx, hn, rfl, rfl, rfl⟩
    have hfsx := hfs x
    have hflx := hfl x
    by_cases hx16 : x < 16
    · generalize hys : filtK (f k) x = ys at *
      cases hfx : f k x
      · rw [if_neg (by rw [hfx]; simp), List.append_nil] at hfsx
        repeat' (first | (apply OK_seq) | (apply thenQ_n) | (apply OK_region) | (refine OKx_idxAgg Try.underlying99 (v := .bool false) rfl rfl (by omega) (hag x false hx16 hfx) ?_) | (apply OKx_nilK) | (apply OK_block) | (apply blockQ_n) | (apply blockQ_s) | (apply thenQ_e) | (apply blockQ_e; exact rfl) | (apply thenQ_r) | (apply blockQ_r) | (apply OK_condT; exact rfl) | (apply OK_condF; exact rfl) | (apply OK_skip) | (apply OK_exit) | (apply OK_ret) | (apply OKx_move; ((conv => lhs; whnf) <;> exact rfl)) | (apply OKx_assign; ((conv => lhs; whnf) <;> exact rfl)) | (apply OKx_ldB; exact rfl; (first | exact at0 | exact at1 | exact at2 | exact at3 | exact at4 | exact at5 | exact at6 | exact at7); exact rfl) | (apply OKx_ldR; ((conv => lhs; whnf) <;> exact rfl); (with_reducible assumption)) | (apply OKx_len; exact rfl) | (apply OKx_lenR; ((conv => lhs; whnf) <;> exact rfl); (with_reducible assumption)) | (apply OKx_lenR2; ((conv => lhs; whnf) <;> exact rfl); (with_reducible assumption)) | (apply OKx_lenO; ((conv => lhs; whnf) <;> exact rfl); (first | exact at0 | exact at1 | exact at2 | exact at3 | exact at4 | exact at5 | exact at6 | exact at7)) | (apply OKx_lss; exact rfl; exact rfl; all_goals (intro _; try (exfalso; omega))) | (apply OKx_neq; exact rfl; exact rfl; all_goals (intro _; try (exfalso; omega))) | (apply OKx_idxR2; ((conv => lhs; whnf) <;> exact rfl); (with_reducible assumption); exact rfl; omega; intro _ _) | (apply OKx_idxS; exact rfl; exact rfl; omega) | (apply OKx_inc; exact rfl; exact rfl; omega) | (apply OKx_addN; exact rfl; exact rfl; omega) | (apply OKx_add; exact rfl; exact rfl; omega; omega) | (apply OKx_extract; exact rfl; ((conv => lhs; whnf) <;> exact rfl)) | (apply OKx_boxA; exact rfl; intro _) | (apply OKx_alloc1; intro _) | (apply OKx_ldBA; exact rfl; (first | exact at0 | exact at1 | exact at2 | exact at3 | exact at4 | exact at5 | exact at6 | exact at7); exact rfl) | (apply OKx_ldRA; ((conv => lhs; whnf) <;> exact rfl); (with_reducible assumption)) | (apply OKx_stI; exact rfl; exact rfl; (first | exact at0 | exact at1 | exact at2 | exact at3 | exact at4 | exact at5 | exact at6 | exact at7); omega; exact rfl) | (apply OKx_stB; exact rfl; ((conv => lhs; whnf) <;> exact rfl); exact rfl; exact rfl; (first | exact at0 | exact at1 | exact at2 | exact at3 | exact at4 | exact at5 | exact at6 | exact at7); exact rfl; exact rfl; exact rfl) | (apply OKx_slit1; ((conv => lhs; whnf) <;> exact rfl); exact rfl; intro _) | (apply OKx_func; exact rfl; exact rfl))
        refine ⟨by (repeat' (first | refine agree_upd rfl ?_ | exact agree_over | exact agree_refl _ _ | refine agree_over2 rfl ?_)), m2 - 1, _, by omega, Ent.refl _ _, ?_⟩
        exact ⟨x + 1, n, la, lc, by omega, by rw [hfsx]; exact hn, rfl, rfl, by rw [hfsx]⟩
      · rw [if_pos hfx] at hfsx
        repeat' (first | (apply OK_seq) | (apply thenQ_n) | (apply OK_region) | (refine OKx_idxAgg Try.underlying99 (v := .bool true) rfl rfl (by omega) (hag x true hx16 hfx) ?_) | (refine OKx_appI 1 0 rfl rfl rfl rfl (by omega) (by omega) ?_; intro g5 c5) | (apply OKx_nilK) | (apply OK_block) | (apply blockQ_n) | (apply blockQ_s) | (apply thenQ_e) | (apply blockQ_e; exact rfl) | (apply thenQ_r) | (apply blockQ_r) | (apply OK_condT; exact rfl) | (apply OK_condF; exact rfl) | (apply OK_skip) | (apply OK_exit) | (apply OK_ret) | (apply OKx_move; ((conv => lhs; whnf) <;> exact rfl)) | (apply OKx_assign; ((conv => lhs; whnf) <;> exact rfl)) | (apply OKx_ldB; exact rfl; (first | exact at0 | exact at1 | exact at2 | exact at3 | exact at4 | exact at5 | exact at6 | exact at7); exact rfl) | (apply OKx_ldR; ((conv => lhs; whnf) <;> exact rfl); (with_reducible assumption)) | (apply OKx_len; exact rfl) | (apply OKx_lenR; ((conv => lhs; whnf) <;> exact rfl); (with_reducible assumption)) | (apply OKx_lenR2; ((conv => lhs; whnf) <;> exact rfl); (with_reducible assumption)) | (apply OKx_lenO; ((conv => lhs; whnf) <;> exact rfl); (first | exact at0 | exact at1 | exact at2 | exact at3 | exact at4 | exact at5 | exact at6 | exact at7)) | (apply OKx_lss; exact rfl; exact rfl; all_goals (intro _; try (exfalso; omega))) | (apply OKx_neq; exact rfl; exact rfl; all_goals (intro _; try (exfalso; omega))) | (apply OKx_idxR2; ((conv => lhs; whnf) <;> exact rfl); (with_reducible assumption); exact rfl; omega; intro _ _) | (apply OKx_idxS; exact rfl; exact rfl; omega) | (apply OKx_inc; exact rfl; exact rfl; omega) | (apply OKx_addN; exact rfl; exact rfl; omega) | (apply OKx_add; exact rfl; exact rfl; omega; omega) | (apply OKx_extract; exact rfl; ((conv => lhs; whnf) <;> exact rfl)) | (apply OKx_boxA; exact rfl; intro _) | (apply OKx_alloc1; intro _) | (apply OKx_ldBA; exact rfl; (first | exact at0 | exact at1 | exact at2 | exact at3 | exact at4 | exact at5 | exact at6 | exact at7); exact rfl) | (apply OKx_ldRA; ((conv => lhs; whnf) <;> exact rfl); (with_reducible assumption)) | (apply OKx_stI; exact rfl; exact rfl; (first | exact at0 | exact at1 | exact at2 | exact at3 | exact at4 | exact at5 | exact at6 | exact at7); omega; exact rfl) | (apply OKx_stB; exact rfl; ((conv => lhs; whnf) <;> exact rfl); exact rfl; exact rfl; (first | exact at0 | exact at1 | exact at2 | exact at3 | exact at4 | exact at5 | exact at6 | exact at7); exact rfl; exact rfl; exact rfl) | (apply OKx_slit1; ((conv => lhs; whnf) <;> exact rfl); exact rfl; intro _) | (apply OKx_func; exact rfl; exact rfl))
        refine ⟨by (repeat' (first | refine agree_upd rfl ?_ | exact agree_over | exact agree_refl _ _ | refine agree_over2 rfl ?_)), m2 - 1, _, by omega, Ent.sub ((List.Sublist.refl _).cons _), ?_⟩
        exact ⟨x + 1, n + 1, _, c5, by omega, by rw [hfsx, List.length_append, hn]; rfl, rfl, rfl, by rw [hfsx]; rfl⟩
    · obtain rfl : x = 16 := by omega
      repeat' (first | (apply OK_seq) | (apply thenQ_n) | (apply OK_region) | (refine OKx_append1 2 0 rfl rfl rfl rfl rfl (by omega) (by omega) ?_; intro g5 c5) | (apply OKx_nilK) | (apply OK_block) | (apply blockQ_n) | (apply blockQ_s) | (apply thenQ_e) | (apply blockQ_e; exact rfl) | (apply thenQ_r) | (apply blockQ_r) | (apply OK_condT; exact rfl) | (apply OK_condF; exact rfl) | (apply OK_skip) | (apply OK_exit) | (apply OK_ret) | (apply OKx_move; ((conv => lhs; whnf) <;> exact rfl)) | (apply OKx_assign; ((conv => lhs; whnf) <;> exact rfl)) | (apply OKx_ldB; exact rfl; (first | exact at0 | exact at1 | exact at2 | exact at3 | exact at4 | exact at5 | exact at6 | exact at7); exact rfl) | (apply OKx_ldR; ((conv => lhs; whnf) <;> exact rfl); (with_reducible assumption)) | (apply OKx_len; exact rfl) | (apply OKx_lenR; ((conv => lhs; whnf) <;> exact rfl); (with_reducible assumption)) | (apply OKx_lenR2; ((conv => lhs; whnf) <;> exact rfl); (with_reducible assumption)) | (apply OKx_lenO; ((conv => lhs; whnf) <;> exact rfl); (first | exact at0 | exact at1 | exact at2 | exact at3 | exact at4 | exact at5 | exact at6 | exact at7)) | (apply OKx_lss; exact rfl; exact rfl; all_goals (intro _; try (exfalso; omega))) | (apply OKx_neq; exact rfl; exact rfl; all_goals (intro _; try (exfalso; omega))) | (apply OKx_idxR2; ((conv => lhs; whnf) <;> exact rfl); (with_reducible assumption); exact rfl; omega; intro _ _) | (apply OKx_idxS; exact rfl; exact rfl; omega) | (apply OKx_inc; exact rfl; exact rfl; omega) | (apply OKx_addN; exact rfl; exact rfl; omega) | (apply OKx_add; exact rfl; exact rfl; omega; omega) | (apply OKx_extract; exact rfl; ((conv => lhs; whnf) <;> exact rfl)) | (apply OKx_boxA; exact rfl; intro _) | (apply OKx_alloc1; intro _) | (apply OKx_ldBA; exact rfl; (first | exact at0 | exact at1 | exact at2 | exact at3 | exact at4 | exact at5 | exact at6 | exact at7); exact rfl) | (apply OKx_ldRA; ((conv => lhs; whnf) <;> exact rfl); (with_reducible assumption)) | (apply OKx_stI; exact rfl; exact rfl; (first | exact at0 | exact at1 | exact at2 | exact at3 | exact at4 | exact at5 | exact at6 | exact at7); omega; exact rfl) | (apply OKx_stB; exact rfl; ((conv => lhs; whnf) <;> exact rfl); exact rfl; exact rfl; (first | exact at0 | exact at1 | exact at2 | exact at3 | exact at4 | exact at5 | exact at6 | exact at7); exact rfl; exact rfl; exact rfl) | (apply OKx_slit1; ((conv => lhs; whnf) <;> exact rfl); exact rfl; intro _) | (apply OKx_func; exact rfl; exact rfl))
      refine ⟨by (repeat' (first | refine agree_upd rfl ?_ | exact agree_over | exact agree_refl _ _ | refine agree_over2 rfl ?_)), m - 1, _, by omega, Ent.pickT [_, _, _, _, _, _, _] Z [2, 3, 4, 5, 6, 1] rfl, ?_⟩
      refine ⟨k + 1, _, c5, vs ++ [.slice la n lc], .row 3 1 (.slice la n lc) n (ints (filtK (f k) 16)) :: Z, by omega, rfl, rfl, fun _ => ⟨_, rfl⟩, by simp [hvs], fun _ w1 hp j hj => ?_, rfl⟩
      rw [getD_snoc, hvs]
      by_cases hjk : j < k
      · rw [if_pos hjk]
        exact hZ _ w1 hp.drop1 j hjk
      · obtain rfl : j = k := by omega
        rw [if_neg hjk, if_pos rfl]
        exact hp.ints 0 rfl (by omega)
  · obtain rfl : k = N := by omega
    obtain ⟨g, rfl⟩ := hoa (by omega)
    repeat' (first | (apply OK_seq) | (apply thenQ_n) | (apply OK_region) | (apply OKx_nilK) | (apply OK_block) | (apply blockQ_n) | (apply blockQ_s) | (apply thenQ_e) | (apply blockQ_e; exact rfl) | (apply thenQ_r) | (apply blockQ_r) | (apply OK_condT; exact rfl) | (apply OK_condF; exact rfl) | (apply OK_skip) | (apply OK_exit) | (apply OK_ret) | (apply OKx_move; ((conv => lhs; whnf) <;> exact rfl)) | (apply OKx_assign; ((conv => lhs; whnf) <;> exact rfl)) | (apply OKx_ldB; exact rfl; (first | exact at0 | exact at1 | exact at2 | exact at3 | exact at4 | exact at5 | exact at6 | exact at7); exact rfl) | (apply OKx_ldR; ((conv => lhs; whnf) <;> exact rfl); (with_reducible assumption)) | (apply OKx_len; exact rfl) | (apply OKx_lenR; ((conv => lhs; whnf) <;> exact rfl); (with_reducible assumption)) | (apply OKx_lenR2; ((conv => lhs; whnf) <;> exact rfl); (with_reducible assumption)) | (apply OKx_lenO; ((conv => lhs; whnf) <;> exact rfl); (first | exact at0 | exact at1 | exact at2 | exact at3 | exact at4 | exact at5 | exact at6 | exact at7)) | (apply OKx_lss; exact rfl; exact rfl; all_goals (intro _; try (exfalso; omega))) | (apply OKx_neq; exact rfl; exact rfl; all_goals (intro _; try (exfalso; omega))) | (apply OKx_idxR2; ((conv => lhs; whnf) <;> exact rfl); (with_reducible assumption); exact rfl; omega; intro _ _) | (apply OKx_idxS; exact rfl; exact rfl; omega) | (apply OKx_inc; exact rfl; exact rfl; omega) | (apply OKx_addN; exact rfl; exact rfl; omega) | (apply OKx_add; exact rfl; exact rfl; omega; omega) | (apply OKx_extract; exact rfl; ((conv => lhs; whnf) <;> exact rfl)) | (apply OKx_boxA; exact rfl; intro _) | (apply OKx_alloc1; intro _) | (apply OKx_ldBA; exact rfl; (first | exact at0 | exact at1 | exact at2 | exact at3 | exact at4 | exact at5 | exact at6 | exact at7); exact rfl) | (apply OKx_ldRA; ((conv => lhs; whnf) <;> exact rfl); (with_reducible assumption)) | (apply OKx_stI; exact rfl; exact rfl; (first | exact at0 | exact at1 | exact at2 | exact at3 | exact at4 | exact at5 | exact at6 | exact at7); omega; exact rfl) | (apply OKx_stB; exact rfl; ((conv => lhs; whnf) <;> exact rfl); exact rfl; exact rfl; (first | exact at0 | exact at1 | exact at2 | exact at3 | exact at4 | exact at5 | exact at6 | exact at7); exact rfl; exact rfl; exact rfl) | (apply OKx_slit1; ((conv => lhs; whnf) <;> exact rfl); exact rfl; intro _) | (apply OKx_func; exact rfl; exact rfl))
    first | refine bodyQ_r1 (by ((conv => lhs; whnf) <;> exact rfl)) ?_ | refine bodyQ_r2 (by ((conv => lhs; whnf) <;> exact rfl)) (by ((conv => lhs; whnf) <;> exact rfl)) ?_ | refine bodyQ_r3 (by ((conv => lhs; whnf) <;> exact rfl)) (by ((conv => lhs; whnf) <;> exact rfl)) (by ((conv => lhs; whnf) <;> exact rfl)) ?_ | refine bodyQ_r0 ?_ | refine bodyQ_n0 ?_
    refine ⟨_, Ent.pickT [_, _, _, _, _] Z [0] rfl, .inr ⟨he, g, oc, vs, Z, rfl, hvs, fun _ w1 hp j hj => ?_, rfl⟩⟩
    rw [hpos j]
    exact hZ _ w1 hp j hj
theorem posT_at (s : Stem) (st : List Int) (j : Nat) (h : j < st.length) : (posT s st).getD j [] = posL s st j := by
  unfold posT
  simp [h]
theorem posT_len (s : Stem) (st : List Int) : (posT s st).length = st.length := by simp [posT]
theorem pos_tabs {s : Stem} {st : List Int} {w0 w : World} {v : Value} {vs : List Value} {Z L : List Res} (hp : Hp w0.heap.size w0 w L) (i : Nat) (hi : L[i]? = some (.row 27 1 v st.length vs)) (hs : Hp w0.heap.size w0 w L → Hp w0.heap.size w0 w Z) (hb : st.length ≤ 140737488355328)
    (hZ : ∀ w0 w, Hp w0.heap.size w0 w Z → ∀ j, j < st.length → Ints w (vs.getD j undef) (posL s st j)) : Tabs w v (posT s st) :=
  hp.tabs i hi hb (posT_len s st) (fun j hj => by rw [posT_at s st j hj]; exact hZ _ w (hs hp) j hj)
end Go.Proofs.Ytmclgfipdgmomaa
namespace Go.Proofs.Ytmclgfipdgmomaa
open Go.RowKit
section
variable {P : Program} {n : Nat} {w0 : World} {Q : Exit → Fm → List Res → Prop} {K : Fm → List Res → Prop} {F : Fm} {L : List Res} {m : Md} {ops : Array Oper} {rest : List Oper} {d : Option Nat} {ty : TypeId} {pos : String} {aft : Array Edge}
theorem Sl.form {v : Value} {N : Nat} {f : Nat → Value} {C : World → Prop} (h : ∀ w, C w → Sl w v 1 N f) (w1 : World) (h1 : C w1) : ∃ a c, v = .slice a N c ∧ (0 < N → ∃ b o, a = some ⟨b, o, none⟩ ∧ ∀ w, C w → ∀ j, j < N → w.cell? ⟨b, o + j, none⟩ = some (f j)) := by
  obtain ⟨a, c, rfl, _⟩ := (h w1 h1).out
  refine ⟨a, c, rfl, fun h0 => ?_⟩
  obtain ⟨a2, c2, e, hc⟩ := (h w1 h1).out
  simp only [Value.slice.injEq] at e
  obtain ⟨rfl, _, rfl⟩ := e
  rcases hc with hc | ⟨b, o, rfl, _⟩
  · omega
  refine ⟨b, o, rfl, fun w hw j hj => ?_⟩
  obtain ⟨a2, c2, e, hc⟩ := (h w hw).out
  simp only [Value.slice.injEq] at e
  obtain ⟨rfl, _, rfl⟩ := e
  rcases hc with hc | ⟨b2, o2, e2, hc⟩
  · omega
  simp only [Option.some.injEq, Addr.mk.injEq] at e2
  obtain ⟨rfl, rfl, _⟩ := e2
  exact hc j (by omega)
end
def rtL (par : List (List Int)) (k : Nat) : List Int := ((List.range k).filter (fun i => decide ((par.getD i []).length = 0))).map (fun i : Nat => (i : Int))
theorem rtL_step (par : List (List Int)) (k : Nat) : rtL par (k + 1) = rtL par k ++ if (par.getD k []).length = 0 then [(k : Int)] else [] := by
  unfold rtL
  rw [List.range_succ, List.filter_append, List.map_append]
  congr 1
  by_cases h : (par.getD k []).length = 0
  · rw [if_pos h, List.filter_cons_of_pos (by simpa using h)]; rfl
  · rw [if_neg h, List.filter_cons_of_neg (by simpa using h)]; rfl
theorem rtL_len (par : List (List Int)) (k : Nat) : (rtL par k).length ≤ k := by
  unfold rtL
  rw [List.length_map]
  exact Nat.le_trans (List.length_filter_le _ _) (by simp)
theorem rtL_nat (par : List (List Int)) (k : Nat) : ∀ u ∈ rtL par k, 0 ≤ u ∧ u.toNat < k := by
  intro u hu
  unfold rtL at hu
  simp only [List.mem_map, List.mem_filter, List.mem_range] at hu
  obtain ⟨i, ⟨h1, _⟩, rfl⟩ := hu
  omega
def rts (s : Stem) : List Int := rtL s.par s.par.length
def RtsR (s : Stem) (u : Value) (L : List Res) : Prop :=
  (stCheck s ≠ 0 ∧ u = .tuple #[.slice none 0 0, .int .i64 1] ∧ L = []) ∨
  (stCheck s = 0 ∧ ∃ a c, u = .tuple #[.slice a (rts s).length c, .int .i64 0] ∧ (0 < (rts s).length → ∃ g, a = some ⟨g, 0, none⟩) ∧ L = [.row 3 1 (.slice a (rts s).length c) (rts s).length (ints (rts s))])
set_option maxRecDepth 100000 in
set_option maxHeartbeats 4000000 in
theorem rts1_sat (v : Value) (xs : List Int) (w : World) (h : Ints w v xs) : SatV Try.prog 91 [v] w (.bool (decide (xs.length = 0))) := by
  have hv := h.sl
  refine SatL.of 6 [2] Try.func91 (by kernel_rfl) (by kernel_rfl) rfl rfl rfl rfl ?_
  repeat' (first | (apply OK_seq) | (apply thenQ_n) | (apply OK_region) | (apply OKx_nilK) | (apply OK_block) | (apply blockQ_n) | (apply blockQ_s) | (apply thenQ_e) | (apply blockQ_e; exact rfl) | (apply thenQ_r) | (apply blockQ_r) | (apply OK_condT; exact rfl) | (apply OK_condF; exact rfl) | (apply OK_skip) | (apply OK_exit) | (apply OK_ret) | (apply OKx_move; ((conv => lhs; whnf) <;> exact rfl)) | (apply OKx_assign; ((conv => lhs; whnf) <;> exact rfl)) | (apply OKx_len; exact rfl) | (apply OKx_lenR; ((conv => lhs; whnf) <;> exact rfl); (with_reducible assumption)) | (apply OKx_lenR2; ((conv => lhs; whnf) <;> exact rfl); (with_reducible assumption)) | (apply OKx_lenO; ((conv => lhs; whnf) <;> exact rfl); (first | exact at0 | exact at1 | exact at2 | exact at3 | exact at4 | exact at5 | exact at6 | exact at7)) | (apply OKx_eql; exact rfl; exact rfl; all_goals (intro _; try (exfalso; omega))))
  · first | refine bodyQ_r1 (by ((conv => lhs; whnf) <;> exact rfl)) ?_ | refine bodyQ_r2 (by ((conv => lhs; whnf) <;> exact rfl)) (by ((conv => lhs; whnf) <;> exact rfl)) ?_ | refine bodyQ_r3 (by ((conv => lhs; whnf) <;> exact rfl)) (by ((conv => lhs; whnf) <;> exact rfl)) (by ((conv => lhs; whnf) <;> exact rfl)) ?_ | refine bodyQ_r0 ?_ | refine bodyQ_n0 ?_
    exact ⟨_, Ent.nil, bool_eq (decide_eq_true (by omega)).symm, rfl⟩
  · first | refine bodyQ_r1 (by ((conv => lhs; whnf) <;> exact rfl)) ?_ | refine bodyQ_r2 (by ((conv => lhs; whnf) <;> exact rfl)) (by ((conv => lhs; whnf) <;> exact rfl)) ?_ | refine bodyQ_r3 (by ((conv => lhs; whnf) <;> exact rfl)) (by ((conv => lhs; whnf) <;> exact rfl)) (by ((conv => lhs; whnf) <;> exact rfl)) ?_ | refine bodyQ_r0 ?_ | refine bodyQ_n0 ?_
    exact ⟨_, Ent.nil, bool_eq (decide_eq_false (by omega)).symm, rfl⟩
set_option maxRecDepth 100000 in
set_option maxHeartbeats 4000000 in
theorem nodesR_sat (v : Value) (s : Stem) (w : World) (h : Stm w v s) : Sat Try.prog 90 [v, .func (.func 91) #[] #[]] w (RtsR s) := by
  have hst := h
  obtain ⟨nv, ev, pv, rfl, _, _, hP⟩ := h
  obtain ⟨fv, hpv, hrow⟩ := hP.rows
  have hpb := hpv.bound
  by_cases hc : stCheck s = 0
  rotate_left
  · refine SatL.of 29 [4, 5] Try.func90 (by kernel_rfl) (by kernel_rfl) rfl rfl rfl rfl ?_
    repeat' (first | (apply OK_seq) | (apply thenQ_n) | (apply OK_region) | (refine OKx_callV (f := 48) rfl rfl rfl (fun w1 hp => stCheck_sat _ s w1 (hst.below hp.below)) ?_) | (apply OKx_nilK) | (apply OK_block) | (apply blockQ_n) | (apply blockQ_s) | (apply thenQ_e) | (apply blockQ_e; exact rfl) | (apply thenQ_r) | (apply blockQ_r) | (apply OK_condT; exact rfl) | (apply OK_condF; exact rfl) | (apply OK_skip) | (apply OK_exit) | (apply OK_ret) | (apply OKx_move; ((conv => lhs; whnf) <;> exact rfl)) | (apply OKx_assign; ((conv => lhs; whnf) <;> exact rfl)) | (apply OKx_ldB; exact rfl; (first | exact at0 | exact at1 | exact at2 | exact at3 | exact at4 | exact at5 | exact at6 | exact at7); exact rfl) | (apply OKx_ldR; ((conv => lhs; whnf) <;> exact rfl); (with_reducible assumption)) | (apply OKx_len; exact rfl) | (apply OKx_lenR; ((conv => lhs; whnf) <;> exact rfl); (with_reducible assumption)) | (apply OKx_lenR2; ((conv => lhs; whnf) <;> exact rfl); (with_reducible assumption)) | (apply OKx_lenO; ((conv => lhs; whnf) <;> exact rfl); (first | exact at0 | exact at1 | exact at2 | exact at3 | exact at4 | exact at5 | exact at6 | exact at7)) | (apply OKx_lss; exact rfl; exact rfl; all_goals (intro _; try (exfalso; omega))) | (apply OKx_neq; exact rfl; exact rfl; all_goals (intro _; try (exfalso; omega))) | (apply OKx_idxO; exact rfl; exact rfl; omega) | (apply OKx_idxR; ((conv => lhs; whnf) <;> exact rfl); (with_reducible assumption); exact rfl; omega; intro _ _) | (apply OKx_idxOz; exact rfl; exact rfl; omega; omega) | (apply OKx_idxRz; ((conv => lhs; whnf) <;> exact rfl); (with_reducible assumption); exact rfl; omega; omega; intro _ _) | (apply OKx_fldO; exact rfl; exact rfl) | (apply OKx_fldR; ((conv => lhs; whnf) <;> exact rfl); (with_reducible assumption); decide; intro _ _) | (apply OKx_inc; exact rfl; exact rfl; omega) | (apply OKx_addN; exact rfl; exact rfl; omega) | (apply OKx_add; exact rfl; exact rfl; omega; omega) | (apply OKx_boxA; exact rfl; intro _) | (apply OKx_ldBA; exact rfl; (first | exact at0 | exact at1 | exact at2 | exact at3 | exact at4 | exact at5 | exact at6 | exact at7); exact rfl) | (apply OKx_ldRA; ((conv => lhs; whnf) <;> exact rfl); (with_reducible assumption)) | (apply OKx_slit1; ((conv => lhs; whnf) <;> exact rfl); exact rfl; intro _))
    first | refine bodyQ_r1 (by ((conv => lhs; whnf) <;> exact rfl)) ?_ | refine bodyQ_r2 (by ((conv => lhs; whnf) <;> exact rfl)) (by ((conv => lhs; whnf) <;> exact rfl)) ?_ | refine bodyQ_r3 (by ((conv => lhs; whnf) <;> exact rfl)) (by ((conv => lhs; whnf) <;> exact rfl)) (by ((conv => lhs; whnf) <;> exact rfl)) ?_ | refine bodyQ_r0 ?_ | refine bodyQ_n0 ?_
    exact ⟨_, Ent.nil, .inl ⟨hc, rfl, rfl⟩⟩
  have hlen := stCheck_len s hc
  refine SatL.of 29 [4, 5] Try.func90 (by kernel_rfl) (by kernel_rfl) rfl rfl rfl rfl ?_
  repeat' (first | (apply OK_seq) | (apply thenQ_n) | (apply OK_region) | (refine OKx_callV (f := 48) (v := .int .i64 0) rfl rfl rfl (fun w1 hp => by rw [← hc]; exact stCheck_sat _ s w1 (hst.below hp.below)) ?_) | (apply OKx_nilK) | (apply OK_block) | (apply blockQ_n) | (apply blockQ_s) | (apply thenQ_e) | (apply blockQ_e; exact rfl) | (apply thenQ_r) | (apply blockQ_r) | (apply OK_condT; exact rfl) | (apply OK_condF; exact rfl) | (apply OK_skip) | (apply OK_exit) | (apply OK_ret) | (apply OKx_move; ((conv => lhs; whnf) <;> exact rfl)) | (apply OKx_assign; ((conv => lhs; whnf) <;> exact rfl)) | (apply OKx_ldB; exact rfl; (first | exact at0 | exact at1 | exact at2 | exact at3 | exact at4 | exact at5 | exact at6 | exact at7); exact rfl) | (apply OKx_ldR; ((conv => lhs; whnf) <;> exact rfl); (with_reducible assumption)) | (apply OKx_len; exact rfl) | (apply OKx_lenR; ((conv => lhs; whnf) <;> exact rfl); (with_reducible assumption)) | (apply OKx_lenR2; ((conv => lhs; whnf) <;> exact rfl); (with_reducible assumption)) | (apply OKx_lenO; ((conv => lhs; whnf) <;> exact rfl); (first | exact at0 | exact at1 | exact at2 | exact at3 | exact at4 | exact at5 | exact at6 | exact at7)) | (apply OKx_lss; exact rfl; exact rfl; all_goals (intro _; try (exfalso; omega))) | (apply OKx_neq; exact rfl; exact rfl; all_goals (intro _; try (exfalso; omega))) | (apply OKx_idxO; exact rfl; exact rfl; omega) | (apply OKx_idxR; ((conv => lhs; whnf) <;> exact rfl); (with_reducible assumption); exact rfl; omega; intro _ _) | (apply OKx_idxOz; exact rfl; exact rfl; omega; omega) | (apply OKx_idxRz; ((conv => lhs; whnf) <;> exact rfl); (with_reducible assumption); exact rfl; omega; omega; intro _ _) | (apply OKx_fldO; exact rfl; exact rfl) | (apply OKx_fldR; ((conv => lhs; whnf) <;> exact rfl); (with_reducible assumption); decide; intro _ _) | (apply OKx_inc; exact rfl; exact rfl; omega) | (apply OKx_addN; exact rfl; exact rfl; omega) | (apply OKx_add; exact rfl; exact rfl; omega; omega) | (apply OKx_boxA; exact rfl; intro _) | (apply OKx_ldBA; exact rfl; (first | exact at0 | exact at1 | exact at2 | exact at3 | exact at4 | exact at5 | exact at6 | exact at7); exact rfl) | (apply OKx_ldRA; ((conv => lhs; whnf) <;> exact rfl); (with_reducible assumption)) | (apply OKx_slit1; ((conv => lhs; whnf) <;> exact rfl); exact rfl; intro _))
  rename_i g2 _
  refine OK_loop2 6 15 [6, 7, 8, 15, 16, 17, 18, 19, 20, 21, 22, 23, 24, 25, 26, 27] (fun m u v L => ∃ (k n : Nat) (a : Option Addr) (c : Nat), k + m = s.par.length ∧ n = (rtL s.par k).length ∧ u = .slice a n c ∧ (0 < n → ∃ g, a = some ⟨g, 0, none⟩) ∧ v = .int .i64 (k : Int) ∧ L = [.row 3 1 (.slice a n c) n (ints (rtL s.par k)), .box 26 g2 [nv, ev, pv]]) s.par.length _ (Ent.mk fun w1 hp => hp.nil 3 1) ⟨0, 0, none, 0, by omega, rfl, rfl, fun h => absurd h (by omega), rfl, rfl⟩ ?_
  rintro m u v L G ⟨k, n, a, c, hm, hn, rfl, ha, rfl, rfl⟩
  by_cases hk : k < s.par.length
  rotate_left
  · obtain rfl : k = s.par.length := by omega
    subst hn
    repeat' (first | (apply OK_seq) | (apply thenQ_n) | (apply OK_region) | (apply OKx_nilK) | (apply OK_block) | (apply blockQ_n) | (apply blockQ_s) | (apply thenQ_e) | (apply blockQ_e; exact rfl) | (apply thenQ_r) | (apply blockQ_r) | (apply OK_condT; exact rfl) | (apply OK_condF; exact rfl) | (apply OK_skip) | (apply OK_exit) | (apply OK_ret) | (apply OKx_move; ((conv => lhs; whnf) <;> exact rfl)) | (apply OKx_assign; ((conv => lhs; whnf) <;> exact rfl)) | (apply OKx_ldB; exact rfl; (first | exact at0 | exact at1 | exact at2 | exact at3 | exact at4 | exact at5 | exact at6 | exact at7); exact rfl) | (apply OKx_ldR; ((conv => lhs; whnf) <;> exact rfl); (with_reducible assumption)) | (apply OKx_len; exact rfl) | (apply OKx_lenR; ((conv => lhs; whnf) <;> exact rfl); (with_reducible assumption)) | (apply OKx_lenR2; ((conv => lhs; whnf) <;> exact rfl); (with_reducible assumption)) | (apply OKx_lenO; ((conv => lhs; whnf) <;> exact rfl); (first | exact at0 | exact at1 | exact at2 | exact at3 | exact at4 | exact at5 | exact at6 | exact at7)) | (apply OKx_lss; exact rfl; exact rfl; all_goals (intro _; try (exfalso; omega))) | (apply OKx_neq; exact rfl; exact rfl; all_goals (intro _; try (exfalso; omega))) | (apply OKx_idxO; exact rfl; exact rfl; omega) | (apply OKx_idxR; ((conv => lhs; whnf) <;> exact rfl); (with_reducible assumption); exact rfl; omega; intro _ _) | (apply OKx_idxOz; exact rfl; exact rfl; omega; omega) | (apply OKx_idxRz; ((conv => lhs; whnf) <;> exact rfl); (with_reducible assumption); exact rfl; omega; omega; intro _ _) | (apply OKx_fldO; exact rfl; exact rfl) | (apply OKx_fldR; ((conv => lhs; whnf) <;> exact rfl); (with_reducible assumption); decide; intro _ _) | (apply OKx_inc; exact rfl; exact rfl; omega) | (apply OKx_addN; exact rfl; exact rfl; omega) | (apply OKx_add; exact rfl; exact rfl; omega; omega) | (apply OKx_boxA; exact rfl; intro _) | (apply OKx_ldBA; exact rfl; (first | exact at0 | exact at1 | exact at2 | exact at3 | exact at4 | exact at5 | exact at6 | exact at7); exact rfl) | (apply OKx_ldRA; ((conv => lhs; whnf) <;> exact rfl); (with_reducible assumption)) | (apply OKx_slit1; ((conv => lhs; whnf) <;> exact rfl); exact rfl; intro _))
    first | refine bodyQ_r1 (by ((conv => lhs; whnf) <;> exact rfl)) ?_ | refine bodyQ_r2 (by ((conv => lhs; whnf) <;> exact rfl)) (by ((conv => lhs; whnf) <;> exact rfl)) ?_ | refine bodyQ_r3 (by ((conv => lhs; whnf) <;> exact rfl)) (by ((conv => lhs; whnf) <;> exact rfl)) (by ((conv => lhs; whnf) <;> exact rfl)) ?_ | refine bodyQ_r0 ?_ | refine bodyQ_n0 ?_
    exact ⟨_, Ent.pick [0] rfl, .inr ⟨hc, a, c, rfl, ha, rfl⟩⟩
  have hs := rtL_step s.par k
  have hle := rtL_len s.par k
  have hrk := hrow k
  generalize hys : rtL s.par k = ys at *
  by_cases hz : (s.par.getD k []).length = 0
  · rw [if_pos hz] at hs
    repeat' (first | (apply OK_seq) | (apply thenQ_n) | (apply OK_region) | (refine OKx_callV (f := 91) (v := .bool true) rfl rfl rfl (fun w1 hp => by have := rts1_sat _ _ w1 (hrk.below hp.below); rwa [decide_eq_true hz] at this) ?_) | (refine OKx_appI 1 0 rfl rfl rfl rfl (by omega) (by omega) ?_; intro g5 c5) | (apply OKx_nilK) | (apply OK_block) | (apply blockQ_n) | (apply blockQ_s) | (apply thenQ_e) | (apply blockQ_e; exact rfl) | (apply thenQ_r) | (apply blockQ_r) | (apply OK_condT; exact rfl) | (apply OK_condF; exact rfl) | (apply OK_skip) | (apply OK_exit) | (apply OK_ret) | (apply OKx_move; ((conv => lhs; whnf) <;> exact rfl)) | (apply OKx_assign; ((conv => lhs; whnf) <;> exact rfl)) | (apply OKx_ldB; exact rfl; (first | exact at0 | exact at1 | exact at2 | exact at3 | exact at4 | exact at5 | exact at6 | exact at7); exact rfl) | (apply OKx_ldR; ((conv => lhs; whnf) <;> exact rfl); (with_reducible assumption)) | (apply OKx_len; exact rfl) | (apply OKx_lenR; ((conv => lhs; whnf) <;> exact rfl); (with_reducible assumption)) | (apply OKx_lenR2; ((conv => lhs; whnf) <;> exact rfl); (with_reducible assumption)) | (apply OKx_lenO; ((conv => lhs; whnf) <;> exact rfl); (first | exact at0 | exact at1 | exact at2 | exact at3 | exact at4 | exact at5 | exact at6 | exact at7)) | (apply OKx_lss; exact rfl; exact rfl; all_goals (intro _; try (exfalso; omega))) | (apply OKx_neq; exact rfl; exact rfl; all_goals (intro _; try (exfalso; omega))) | (apply OKx_idxO; exact rfl; exact rfl; omega) | (apply OKx_idxR; ((conv => lhs; whnf) <;> exact rfl); (with_reducible assumption); exact rfl; omega; intro _ _) | (apply OKx_idxOz; exact rfl; exact rfl; omega; omega) | (apply OKx_idxRz; ((conv => lhs; whnf) <;> exact rfl); (with_reducible assumption); exact rfl; omega; omega; intro _ _) | (apply OKx_fldO; exact rfl; exact rfl) | (apply OKx_fldR; ((conv => lhs; whnf) <;> exact rfl); (with_reducible assumption); decide; intro _ _) | (apply OKx_inc; exact rfl; exact rfl; omega) | (apply OKx_addN; exact rfl; exact rfl; omega) | (apply OKx_add; exact rfl; exact rfl; omega; omega) | (apply OKx_boxA; exact rfl; intro _) | (apply OKx_ldBA; exact rfl; (first | exact at0 | exact at1 | exact at2 | exact at3 | exact at4 | exact at5 | exact at6 | exact at7); exact rfl) | (apply OKx_ldRA; ((conv => lhs; whnf) <;> exact rfl); (with_reducible assumption)) | (apply OKx_slit1; ((conv => lhs; whnf) <;> exact rfl); exact rfl; intro _))
    refine ⟨by (repeat' (first | refine agree_upd rfl ?_ | exact agree_over | exact agree_refl _ _ | refine agree_over2 rfl ?_)), m - 1, _, by omega, Ent.pick [1, 2] rfl, ?_⟩
    exact ⟨k + 1, n + 1, _, c5, by omega, by rw [hs, List.length_append, hn]; rfl, rfl, fun _ => ⟨_, rfl⟩, rfl, by rw [hs]; rfl⟩
  · rw [if_neg hz, List.append_nil] at hs
    repeat' (first | (apply OK_seq) | (apply thenQ_n) | (apply OK_region) | (refine OKx_callV (f := 91) (v := .bool false) rfl rfl rfl (fun w1 hp => by have := rts1_sat _ _ w1 (hrk.below hp.below); rwa [decide_eq_false hz] at this) ?_) | (apply OKx_nilK) | (apply OK_block) | (apply blockQ_n) | (apply blockQ_s) | (apply thenQ_e) | (apply blockQ_e; exact rfl) | (apply thenQ_r) | (apply blockQ_r) | (apply OK_condT; exact rfl) | (apply OK_condF; exact rfl) | (apply OK_skip) | (apply OK_exit) | (apply OK_ret) | (apply OKx_move; ((conv => lhs; whnf) <;> exact rfl)) | (apply OKx_assign; ((conv => lhs; whnf) <;> exact rfl)) | (apply OKx_ldB; exact rfl; (first | exact at0 | exact at1 | exact at2 | exact at3 | exact at4 | exact at5 | exact at6 | exact at7); exact rfl) | (apply OKx_ldR; ((conv => lhs; whnf) <;> exact rfl); (with_reducible assumption)) | (apply OKx_len; exact rfl) | (apply OKx_lenR; ((conv => lhs; whnf) <;> exact rfl); (with_reducible assumption)) | (apply OKx_lenR2; ((conv => lhs; whnf) <;> exact rfl); (with_reducible assumption)) | (apply OKx_lenO; ((conv => lhs; whnf) <;> exact rfl); (first | exact at0 | exact at1 | exact at2 | exact at3 | exact at4 | exact at5 | exact at6 | exact at7)) | (apply OKx_lss; exact rfl; exact rfl; all_goals (intro _; try (exfalso; omega))) | (apply OKx_neq; exact rfl; exact rfl; all_goals (intro _; try (exfalso; omega))) | (apply OKx_idxO; exact rfl; exact rfl; omega) | (apply OKx_idxR; ((conv => lhs; whnf) <;> exact rfl); (with_reducible assumption); exact rfl; omega; intro _ _) | (apply OKx_idxOz; exact rfl; exact rfl; omega; omega) | (apply OKx_idxRz; ((conv => lhs; whnf) <;> exact rfl); (with_reducible assumption); exact rfl; omega; omega; intro _ _) | (apply OKx_fldO; exact rfl; exact rfl) | (apply OKx_fldR; ((conv => lhs; whnf) <;> exact rfl); (with_reducible assumption); decide; intro _ _) | (apply OKx_inc; exact rfl; exact rfl; omega) | (apply OKx_addN; exact rfl; exact rfl; omega) | (apply OKx_add; exact rfl; exact rfl; omega; omega) | (apply OKx_boxA; exact rfl; intro _) | (apply OKx_ldBA; exact rfl; (first | exact at0 | exact at1 | exact at2 | exact at3 | exact at4 | exact at5 | exact at6 | exact at7); exact rfl) | (apply OKx_ldRA; ((conv => lhs; whnf) <;> exact rfl); (with_reducible assumption)) | (apply OKx_slit1; ((conv => lhs; whnf) <;> exact rfl); exact rfl; intro _))
    refine ⟨by (repeat' (first | refine agree_upd rfl ?_ | exact agree_over | exact agree_refl _ _ | refine agree_over2 rfl ?_)), m - 1, _, by omega, Ent.refl _ _, ?_⟩
    exact ⟨k + 1, n, a, c, by omega, by rw [hs]; exact hn, rfl, ha, rfl, by rw [hs]⟩
set_option maxRecDepth 100000 in
set_option maxHeartbeats 4000000 in
theorem Roots_sat (v : Value) (s : Stem) (w : World) (h : Stm w v s) : Sat Try.prog 54 [v] w (RtsR s) := by
  have hst := h
  obtain ⟨nv, ev, pv, rfl, _, _, _⟩ := h
  refine SatL.of 8 [2, 3] Try.func54 (by kernel_rfl) (by kernel_rfl) rfl rfl rfl rfl ?_
  repeat' (first | (apply OK_seq) | (apply thenQ_n) | (apply OK_region) | (refine OKx_call (f := 90) rfl rfl (fun w1 hp => nodesR_sat _ s w1 (hst.below hp.below)) ?_; rintro _ _ (⟨h1, rfl, rfl⟩ | ⟨h1, a, c, rfl, ha, rfl⟩)) | (apply OKx_nilK) | (apply OK_block) | (apply blockQ_n) | (apply blockQ_s) | (apply thenQ_e) | (apply blockQ_e; exact rfl) | (apply thenQ_r) | (apply blockQ_r) | (apply OK_condT; exact rfl) | (apply OK_condF; exact rfl) | (apply OK_skip) | (apply OK_exit) | (apply OK_ret) | (apply OKx_assign; ((conv => lhs; whnf) <;> exact rfl)) | (apply OKx_extract; exact rfl; ((conv => lhs; whnf) <;> exact rfl)) | (apply OKx_boxA; exact rfl; intro _) | (apply OKx_ldBA; exact rfl; (first | exact at0 | exact at1 | exact at2 | exact at3 | exact at4 | exact at5 | exact at6 | exact at7); exact rfl) | (apply OKx_ldRA; ((conv => lhs; whnf) <;> exact rfl); (with_reducible assumption)))
  · first | refine bodyQ_r1 (by ((conv => lhs; whnf) <;> exact rfl)) ?_ | refine bodyQ_r2 (by ((conv => lhs; whnf) <;> exact rfl)) (by ((conv => lhs; whnf) <;> exact rfl)) ?_ | refine bodyQ_r3 (by ((conv => lhs; whnf) <;> exact rfl)) (by ((conv => lhs; whnf) <;> exact rfl)) (by ((conv => lhs; whnf) <;> exact rfl)) ?_ | refine bodyQ_r0 ?_ | refine bodyQ_n0 ?_
    exact ⟨_, Ent.nil, .inl ⟨h1, rfl, rfl⟩⟩
  · first | refine bodyQ_r1 (by ((conv => lhs; whnf) <;> exact rfl)) ?_ | refine bodyQ_r2 (by ((conv => lhs; whnf) <;> exact rfl)) (by ((conv => lhs; whnf) <;> exact rfl)) ?_ | refine bodyQ_r3 (by ((conv => lhs; whnf) <;> exact rfl)) (by ((conv => lhs; whnf) <;> exact rfl)) (by ((conv => lhs; whnf) <;> exact rfl)) ?_ | refine bodyQ_r0 ?_ | refine bodyQ_n0 ?_
    exact ⟨_, Ent.pick [0] rfl, .inr ⟨h1, a, c, rfl, ha, rfl⟩⟩
def rooE (s : Stem) (st : List Int) : Int := if chkC s st ≠ 0 then chkC s st else if (rts s).length ≠ 1 then 25 else 0
def rooV (s : Stem) (st : List Int) : Int := if rooE s st ≠ 0 then 0 else (rts s).getD 0 0
set_option maxRecDepth 100000 in
set_option maxHeartbeats 4000000 in
theorem root_sat (v sv : Value) (s : Stem) (st : List Int) (w : World) (h : Stm w v s) (hs : Ints w sv st) : SatV Try.prog 88 [v, sv] w (.tuple #[.int .i64 (rooV s st), .int .i64 (rooE s st)]) := by
  have hst := h
  obtain ⟨nv, ev, pv, rfl, _, _, _⟩ := h
  by_cases hc : chkC s st = 0
  rotate_left
  · have he : rooE s st = chkC s st := if_pos hc
    have hv : rooV s st = 0 := if_pos (by omega)
    refine SatL.of 30 [4, 5] Try.func88 (by kernel_rfl) (by kernel_rfl) rfl rfl rfl rfl ?_
    repeat' (first | (apply OK_seq) | (apply thenQ_n) | (apply OK_region) | (refine OKx_callV (f := 23) (v := .int .i64 (chkC s st)) rfl rfl rfl (fun w1 hp => Chk_sat _ _ s st w1 (hst.below hp.below) (hs.below hp.below)) ?_) | (apply OKx_nilK) | (apply OK_block) | (apply blockQ_n) | (apply blockQ_s) | (apply thenQ_e) | (apply blockQ_e; exact rfl) | (apply thenQ_r) | (apply blockQ_r) | (apply OK_condT; exact rfl) | (apply OK_condF; exact rfl) | (apply OK_skip) | (apply OK_exit) | (apply OK_ret) | (apply OKx_move; ((conv => lhs; whnf) <;> exact rfl)) | (apply OKx_assign; ((conv => lhs; whnf) <;> exact rfl)) | (apply OKx_ldB; exact rfl; (first | exact at0 | exact at1 | exact at2 | exact at3 | exact at4 | exact at5 | exact at6 | exact at7); exact rfl) | (apply OKx_ldR; ((conv => lhs; whnf) <;> exact rfl); (with_reducible assumption)) | (apply OKx_ldI; exact rfl; (first | exact at0 | exact at1 | exact at2 | exact at3 | exact at4 | exact at5 | exact at6 | exact at7); omega) | (apply OKx_len; exact rfl) | (apply OKx_lenR; ((conv => lhs; whnf) <;> exact rfl); (with_reducible assumption)) | (apply OKx_lenR2; ((conv => lhs; whnf) <;> exact rfl); (with_reducible assumption)) | (apply OKx_lenO; ((conv => lhs; whnf) <;> exact rfl); (first | exact at0 | exact at1 | exact at2 | exact at3 | exact at4 | exact at5 | exact at6 | exact at7)) | (apply OKx_neq; exact rfl; exact rfl; all_goals (intro _; try (exfalso; omega))) | (apply OKx_idxO; exact rfl; exact rfl; omega) | (apply OKx_idxR; ((conv => lhs; whnf) <;> exact rfl); (with_reducible assumption); exact rfl; omega; intro _ _) | (apply OKx_idxOz; exact rfl; exact rfl; omega; omega) | (apply OKx_idxRz; ((conv => lhs; whnf) <;> exact rfl); (with_reducible assumption); exact rfl; omega; omega; intro _ _) | (apply OKx_pickT; exact rfl; ((conv => lhs; whnf) <;> exact rfl)) | (apply OKx_pickF; exact rfl; ((conv => lhs; whnf) <;> exact rfl)) | (apply OKx_guardT; exact rfl; exact rfl) | (apply OKx_guardF; exact rfl; exact rfl) | (apply OKx_guardU; exact rfl; exact rfl) | (apply OKx_extract; exact rfl; ((conv => lhs; whnf) <;> exact rfl)) | (apply OKx_boxA; exact rfl; intro _) | (apply OKx_ldBA; exact rfl; (first | exact at0 | exact at1 | exact at2 | exact at3 | exact at4 | exact at5 | exact at6 | exact at7); exact rfl) | (apply OKx_ldRA; ((conv => lhs; whnf) <;> exact rfl); (with_reducible assumption)))
    first | refine bodyQ_r1 (by ((conv => lhs; whnf) <;> exact rfl)) ?_ | refine bodyQ_r2 (by ((conv => lhs; whnf) <;> exact rfl)) (by ((conv => lhs; whnf) <;> exact rfl)) ?_ | refine bodyQ_r3 (by ((conv => lhs; whnf) <;> exact rfl)) (by ((conv => lhs; whnf) <;> exact rfl)) (by ((conv => lhs; whnf) <;> exact rfl)) ?_ | refine bodyQ_r0 ?_ | refine bodyQ_n0 ?_
    exact ⟨_, Ent.nil, by rw [hv, he], rfl⟩
  have h0 := (chkC_zero hc).1
  have hrl : (rts s).length ≤ s.par.length := rtL_len _ _
  have hlen := stCheck_len s h0
  by_cases h1 : (rts s).length = 1
  · have he : rooE s st = 0 := by unfold rooE; rw [if_neg (by omega), if_neg (by omega)]
    have hv : rooV s st = (rts s).getD 0 0 := if_neg (by omega)
    refine SatL.of 30 [4, 5] Try.func88 (by kernel_rfl) (by kernel_rfl) rfl rfl rfl rfl ?_
    repeat' (first | (apply OK_seq) | (apply thenQ_n) | (apply OK_region) | (refine OKx_callV (f := 23) (v := .int .i64 0) rfl rfl rfl (fun w1 hp => by rw [← hc]; exact Chk_sat _ _ s st w1 (hst.below hp.below) (hs.below hp.below)) ?_) | (refine OKx_call (f := 54) rfl rfl (fun w1 hp => Roots_sat _ s w1 (hst.below hp.below)) ?_; rintro _ _ (⟨h2, rfl, rfl⟩ | ⟨h2, a, c, rfl, ha, rfl⟩) <;> first | exact absurd h0 h2 | (obtain ⟨ga, rfl⟩ := ha (by omega))) | (refine OKx_idxO (i := 0) rfl rfl (by omega) ?_) | (apply OKx_nilK) | (apply OK_block) | (apply blockQ_n) | (apply blockQ_s) | (apply thenQ_e) | (apply blockQ_e; exact rfl) | (apply thenQ_r) | (apply blockQ_r) | (apply OK_condT; exact rfl) | (apply OK_condF; exact rfl) | (apply OK_skip) | (apply OK_exit) | (apply OK_ret) | (apply OKx_move; ((conv => lhs; whnf) <;> exact rfl)) | (apply OKx_assign; ((conv => lhs; whnf) <;> exact rfl)) | (apply OKx_ldB; exact rfl; (first | exact at0 | exact at1 | exact at2 | exact at3 | exact at4 | exact at5 | exact at6 | exact at7); exact rfl) | (apply OKx_ldR; ((conv => lhs; whnf) <;> exact rfl); (with_reducible assumption)) | (apply OKx_ldI; exact rfl; (first | exact at0 | exact at1 | exact at2 | exact at3 | exact at4 | exact at5 | exact at6 | exact at7); omega) | (apply OKx_len; exact rfl) | (apply OKx_lenR; ((conv => lhs; whnf) <;> exact rfl); (with_reducible assumption)) | (apply OKx_lenR2; ((conv => lhs; whnf) <;> exact rfl); (with_reducible assumption)) | (apply OKx_lenO; ((conv => lhs; whnf) <;> exact rfl); (first | exact at0 | exact at1 | exact at2 | exact at3 | exact at4 | exact at5 | exact at6 | exact at7)) | (apply OKx_neq; exact rfl; exact rfl; all_goals (intro _; try (exfalso; omega))) | (apply OKx_idxO; exact rfl; exact rfl; omega) | (apply OKx_idxR; ((conv => lhs; whnf) <;> exact rfl); (with_reducible assumption); exact rfl; omega; intro _ _) | (apply OKx_idxOz; exact rfl; exact rfl; omega; omega) | (apply OKx_idxRz; ((conv => lhs; whnf) <;> exact rfl); (with_reducible assumption); exact rfl; omega; omega; intro _ _) | (apply OKx_pickT; exact rfl; ((conv => lhs; whnf) <;> exact rfl)) | (apply OKx_pickF; exact rfl; ((conv => lhs; whnf) <;> exact rfl)) | (apply OKx_guardT; exact rfl; exact rfl) | (apply OKx_guardF; exact rfl; exact rfl) | (apply OKx_guardU; exact rfl; exact rfl) | (apply OKx_extract; exact rfl; ((conv => lhs; whnf) <;> exact rfl)) | (apply OKx_boxA; exact rfl; intro _) | (apply OKx_ldBA; exact rfl; (first | exact at0 | exact at1 | exact at2 | exact at3 | exact at4 | exact at5 | exact at6 | exact at7); exact rfl) | (apply OKx_ldRA; ((conv => lhs; whnf) <;> exact rfl); (with_reducible assumption)))
    first | refine bodyQ_r1 (by ((conv => lhs; whnf) <;> exact rfl)) ?_ | refine bodyQ_r2 (by ((conv => lhs; whnf) <;> exact rfl)) (by ((conv => lhs; whnf) <;> exact rfl)) ?_ | refine bodyQ_r3 (by ((conv => lhs; whnf) <;> exact rfl)) (by ((conv => lhs; whnf) <;> exact rfl)) (by ((conv => lhs; whnf) <;> exact rfl)) ?_ | refine bodyQ_r0 ?_ | refine bodyQ_n0 ?_
    exact ⟨_, Ent.nil, by rw [hv, he], rfl⟩
  · have he : rooE s st = 25 := by unfold rooE; rw [if_neg (by omega), if_pos h1]
    have hv : rooV s st = 0 := if_pos (by omega)
    refine SatL.of 30 [4, 5] Try.func88 (by kernel_rfl) (by kernel_rfl) rfl rfl rfl rfl ?_
    repeat' (first | (apply OK_seq) | (apply thenQ_n) | (apply OK_region) | (refine OKx_callV (f := 23) (v := .int .i64 0) rfl rfl rfl (fun w1 hp => by rw [← hc]; exact Chk_sat _ _ s st w1 (hst.below hp.below) (hs.below hp.below)) ?_) | (refine OKx_call (f := 54) rfl rfl (fun w1 hp => Roots_sat _ s w1 (hst.below hp.below)) ?_; rintro _ _ (⟨h2, rfl, rfl⟩ | ⟨h2, a, c, rfl, ha, rfl⟩) <;> first | exact absurd h0 h2 | skip) | (apply OKx_nilK) | (apply OK_block) | (apply blockQ_n) | (apply blockQ_s) | (apply thenQ_e) | (apply blockQ_e; exact rfl) | (apply thenQ_r) | (apply blockQ_r) | (apply OK_condT; exact rfl) | (apply OK_condF; exact rfl) | (apply OK_skip) | (apply OK_exit) | (apply OK_ret) | (apply OKx_move; ((conv => lhs; whnf) <;> exact rfl)) | (apply OKx_assign; ((conv => lhs; whnf) <;> exact rfl)) | (apply OKx_ldB; exact rfl; (first | exact at0 | exact at1 | exact at2 | exact at3 | exact at4 | exact at5 | exact at6 | exact at7); exact rfl) | (apply OKx_ldR; ((conv => lhs; whnf) <;> exact rfl); (with_reducible assumption)) | (apply OKx_ldI; exact rfl; (first | exact at0 | exact at1 | exact at2 | exact at3 | exact at4 | exact at5 | exact at6 | exact at7); omega) | (apply OKx_len; exact rfl) | (apply OKx_lenR; ((conv => lhs; whnf) <;> exact rfl); (with_reducible assumption)) | (apply OKx_lenR2; ((conv => lhs; whnf) <;> exact rfl); (with_reducible assumption)) | (apply OKx_lenO; ((conv => lhs; whnf) <;> exact rfl); (first | exact at0 | exact at1 | exact at2 | exact at3 | exact at4 | exact at5 | exact at6 | exact at7)) | (apply OKx_neq; exact rfl; exact rfl; all_goals (intro _; try (exfalso; omega))) | (apply OKx_idxO; exact rfl; exact rfl; omega) | (apply OKx_idxR; ((conv => lhs; whnf) <;> exact rfl); (with_reducible assumption); exact rfl; omega; intro _ _) | (apply OKx_idxOz; exact rfl; exact rfl; omega; omega) | (apply OKx_idxRz; ((conv => lhs; whnf) <;> exact rfl); (with_reducible assumption); exact rfl; omega; omega; intro _ _) | (apply OKx_pickT; exact rfl; ((conv => lhs; whnf) <;> exact rfl)) | (apply OKx_pickF; exact rfl; ((conv => lhs; whnf) <;> exact rfl)) | (apply OKx_guardT; exact rfl; exact rfl) | (apply OKx_guardF; exact rfl; exact rfl) | (apply OKx_guardU; exact rfl; exact rfl) | (apply OKx_extract; exact rfl; ((conv => lhs; whnf) <;> exact rfl)) | (apply OKx_boxA; exact rfl; intro _) | (apply OKx_ldBA; exact rfl; (first | exact at0 | exact at1 | exact at2 | exact at3 | exact at4 | exact at5 | exact at6 | exact at7); exact rfl) | (apply OKx_ldRA; ((conv => lhs; whnf) <;> exact rfl); (with_reducible assumption)))
    first | refine bodyQ_r1 (by ((conv => lhs; whnf) <;> exact rfl)) ?_ | refine bodyQ_r2 (by ((conv => lhs; whnf) <;> exact rfl)) (by ((conv => lhs; whnf) <;> exact rfl)) ?_ | refine bodyQ_r3 (by ((conv => lhs; whnf) <;> exact rfl)) (by ((conv => lhs; whnf) <;> exact rfl)) (by ((conv => lhs; whnf) <;> exact rfl)) ?_ | refine bodyQ_r0 ?_ | refine bodyQ_n0 ?_
    exact ⟨_, Ent.nil, by rw [hv, he], rfl⟩
theorem rooE_zero {s : Stem} {st : List Int} (h : rooE s st = 0) : chkC s st = 0 ∧ (rts s).length = 1 := by
  unfold rooE at h
  split at h
  · omega
  · split at h
    · omega
    · omega
theorem rooV_at {s : Stem} {st : List Int} (h : rooE s st = 0) : 0 ≤ rooV s st ∧ (rooV s st).toNat < st.length := by
  obtain ⟨h1, h2⟩ := rooE_zero h
  have e : rooV s st = (rts s).getD 0 0 := if_neg (by omega)
  have := rtL_nat s.par s.par.length _ (getD_mem (rts s) 0 0 (by omega))
  rw [e]
  have := (chkC_zero h1).2.1
  omega
def rtE (s : Stem) (st : List Int) : Int := if rooE s st ≠ 0 then rooE s st else scE s st
def RooR (s : Stem) (st : List Int) (w0 : World) (u : Value) (L : List Res) : Prop :=
  (rtE s st ≠ 0 ∧ u = .tuple #[.slice none 0 0, .int .i64 (rtE s st)] ∧ L = []) ∨
  (rtE s st = 0 ∧ ∃ v, u = .tuple #[v, .int .i64 0] ∧ ∀ w0 w, Hp w0.heap.size w0 w L → Ints w v (posL s st (rooV s st).toNat))
set_option maxRecDepth 100000 in
set_option maxHeartbeats 4000000 in
theorem Root_sat (v sv : Value) (s : Stem) (st : List Int) (wb w : World) (hb0 : Below wb.heap.size wb w) (hh : Stm wb v s) (hhs : Ints wb sv st) : Sat Try.prog 59 [v, sv] w (RooR s st wb) := by
  have h := hh.below hb0
  have hs := hhs.below hb0
  have hst := h
  obtain ⟨nv, ev, pv, rfl, _, _, _⟩ := h
  by_cases hr : rooE s st = 0
  rotate_left
  · have he : rtE s st = rooE s st := if_pos hr
    refine SatL.of 31 [4, 5] Try.func59 (by kernel_rfl) (by kernel_rfl) rfl rfl rfl rfl ?_
    repeat' (first | (apply OK_seq) | (apply thenQ_n) | (apply OK_region) | (refine OKx_callV (f := 88) rfl rfl rfl (fun w1 hp => root_sat _ _ s st w1 (hst.below hp.below) (hs.below hp.below)) ?_) | (apply OKx_nilK) | (apply OK_block) | (apply blockQ_n) | (apply blockQ_s) | (apply thenQ_e) | (apply blockQ_e; exact rfl) | (apply thenQ_r) | (apply blockQ_r) | (apply OK_condT; exact rfl) | (apply OK_condF; exact rfl) | (apply OK_skip) | (apply OK_exit) | (apply OK_ret) | (apply OKx_move; ((conv => lhs; whnf) <;> exact rfl)) | (apply OKx_assign; ((conv => lhs; whnf) <;> exact rfl)) | (apply OKx_ldB; exact rfl; (first | exact at0 | exact at1 | exact at2 | exact at3 | exact at4 | exact at5 | exact at6 | exact at7); exact rfl) | (apply OKx_ldR; ((conv => lhs; whnf) <;> exact rfl); (with_reducible assumption)) | (apply OKx_neq; exact rfl; exact rfl; all_goals (intro _; try (exfalso; omega))) | (apply OKx_idxO; exact rfl; exact rfl; omega) | (apply OKx_idxR; ((conv => lhs; whnf) <;> exact rfl); (with_reducible assumption); exact rfl; omega; intro _ _) | (apply OKx_idxOz; exact rfl; exact rfl; omega; omega) | (apply OKx_idxRz; ((conv => lhs; whnf) <;> exact rfl); (with_reducible assumption); exact rfl; omega; omega; intro _ _) | (apply OKx_extract; exact rfl; ((conv => lhs; whnf) <;> exact rfl)) | (apply OKx_boxA; exact rfl; intro _) | (apply OKx_ldBA; exact rfl; (first | exact at0 | exact at1 | exact at2 | exact at3 | exact at4 | exact at5 | exact at6 | exact at7); exact rfl) | (apply OKx_ldRA; ((conv => lhs; whnf) <;> exact rfl); (with_reducible assumption)))
    first | refine bodyQ_r1 (by ((conv => lhs; whnf) <;> exact rfl)) ?_ | refine bodyQ_r2 (by ((conv => lhs; whnf) <;> exact rfl)) (by ((conv => lhs; whnf) <;> exact rfl)) ?_ | refine bodyQ_r3 (by ((conv => lhs; whnf) <;> exact rfl)) (by ((conv => lhs; whnf) <;> exact rfl)) (by ((conv => lhs; whnf) <;> exact rfl)) ?_ | refine bodyQ_r0 ?_ | refine bodyQ_n0 ?_
    exact ⟨_, Ent.nil, .inl ⟨by omega, by rw [he], rfl⟩⟩
  have he : rtE s st = scE s st := if_neg (by omega)
  have hra := rooV_at hr
  obtain ⟨r, hrv⟩ : ∃ r : Nat, rooV s st = (r : Int) := ⟨(rooV s st).toNat, by omega⟩
  unfold RooR
  rw [hrv] at hra ⊢
  rw [Int.toNat_natCast] at hra ⊢
  by_cases h0 : scE s st = 0
  rotate_left
  · refine SatL.of 31 [4, 5] Try.func59 (by kernel_rfl) (by kernel_rfl) rfl rfl rfl rfl ?_
    repeat' (first | (apply OK_seq) | (apply thenQ_n) | (apply OK_region) | (refine OKx_callV (f := 88) (v := .tuple #[.int .i64 (r : Int), .int .i64 0]) rfl rfl rfl (fun w1 hp => by rw [← hrv, ← hr]; exact root_sat _ _ s st w1 (hst.below hp.below) (hs.below hp.below)) ?_) | (refine OKx_call (f := 52) rfl rfl (fun w1 hp => Poss39_sat _ _ s st w w1 hp.below hst hs) ?_; rintro _ _ (⟨h1, rfl, rfl⟩ | ⟨h1, _⟩) <;> first | exact absurd h1 h0 | skip) | (apply OKx_nilK) | (apply OK_block) | (apply blockQ_n) | (apply blockQ_s) | (apply thenQ_e) | (apply blockQ_e; exact rfl) | (apply thenQ_r) | (apply blockQ_r) | (apply OK_condT; exact rfl) | (apply OK_condF; exact rfl) | (apply OK_skip) | (apply OK_exit) | (apply OK_ret) | (apply OKx_move; ((conv => lhs; whnf) <;> exact rfl)) | (apply OKx_assign; ((conv => lhs; whnf) <;> exact rfl)) | (apply OKx_ldB; exact rfl; (first | exact at0 | exact at1 | exact at2 | exact at3 | exact at4 | exact at5 | exact at6 | exact at7); exact rfl) | (apply OKx_ldR; ((conv => lhs; whnf) <;> exact rfl); (with_reducible assumption)) | (apply OKx_neq; exact rfl; exact rfl; all_goals (intro _; try (exfalso; omega))) | (apply OKx_idxO; exact rfl; exact rfl; omega) | (apply OKx_idxR; ((conv => lhs; whnf) <;> exact rfl); (with_reducible assumption); exact rfl; omega; intro _ _) | (apply OKx_idxOz; exact rfl; exact rfl; omega; omega) | (apply OKx_idxRz; ((conv => lhs; whnf) <;> exact rfl); (with_reducible assumption); exact rfl; omega; omega; intro _ _) | (apply OKx_extract; exact rfl; ((conv => lhs; whnf) <;> exact rfl)) | (apply OKx_boxA; exact rfl; intro _) | (apply OKx_ldBA; exact rfl; (first | exact at0 | exact at1 | exact at2 | exact at3 | exact at4 | exact at5 | exact at6 | exact at7); exact rfl) | (apply OKx_ldRA; ((conv => lhs; whnf) <;> exact rfl); (with_reducible assumption)))
    first | refine bodyQ_r1 (by ((conv => lhs; whnf) <;> exact rfl)) ?_ | refine bodyQ_r2 (by ((conv => lhs; whnf) <;> exact rfl)) (by ((conv => lhs; whnf) <;> exact rfl)) ?_ | refine bodyQ_r3 (by ((conv => lhs; whnf) <;> exact rfl)) (by ((conv => lhs; whnf) <;> exact rfl)) (by ((conv => lhs; whnf) <;> exact rfl)) ?_ | refine bodyQ_r0 ?_ | refine bodyQ_n0 ?_
    exact ⟨_, Ent.nil, .inl ⟨by omega, by rw [he], rfl⟩⟩
  refine SatL.of 31 [4, 5] Try.func59 (by kernel_rfl) (by kernel_rfl) rfl rfl rfl rfl ?_
  repeat' (first | (apply OK_seq) | (apply thenQ_n) | (apply OK_region) | (refine OKx_callV (f := 88) (v := .tuple #[.int .i64 (r : Int), .int .i64 0]) rfl rfl rfl (fun w1 hp => by rw [← hrv, ← hr]; exact root_sat _ _ s st w1 (hst.below hp.below) (hs.below hp.below)) ?_) | (refine OKx_call (f := 52) rfl rfl (fun w1 hp => Poss39_sat _ _ s st wb w1 (hb0.trans (hp.below.mono hb0.size)) hh hhs) ?_; rintro _ _ (⟨h1, _⟩ | ⟨h1, g, c, vs, Z, rfl, hvs, hZ, rfl⟩) <;> first | exact absurd h0 h1 | rw [List.cons_append]) | (refine OKx_idxO (i := r) rfl rfl (by omega) ?_) | (refine OKx_ldW 0 rfl rfl (by omega) (by rw [List.getElem?_eq_getElem (by omega)]) ?_) | (apply OKx_nilK) | (apply OK_block) | (apply blockQ_n) | (apply blockQ_s) | (apply thenQ_e) | (apply blockQ_e; exact rfl) | (apply thenQ_r) | (apply blockQ_r) | (apply OK_condT; exact rfl) | (apply OK_condF; exact rfl) | (apply OK_skip) | (apply OK_exit) | (apply OK_ret) | (apply OKx_move; ((conv => lhs; whnf) <;> exact rfl)) | (apply OKx_assign; ((conv => lhs; whnf) <;> exact rfl)) | (apply OKx_ldB; exact rfl; (first | exact at0 | exact at1 | exact at2 | exact at3 | exact at4 | exact at5 | exact at6 | exact at7); exact rfl) | (apply OKx_ldR; ((conv => lhs; whnf) <;> exact rfl); (with_reducible assumption)) | (apply OKx_neq; exact rfl; exact rfl; all_goals (intro _; try (exfalso; omega))) | (apply OKx_idxO; exact rfl; exact rfl; omega) | (apply OKx_idxR; ((conv => lhs; whnf) <;> exact rfl); (with_reducible assumption); exact rfl; omega; intro _ _) | (apply OKx_idxOz; exact rfl; exact rfl; omega; omega) | (apply OKx_idxRz; ((conv => lhs; whnf) <;> exact rfl); (with_reducible assumption); exact rfl; omega; omega; intro _ _) | (apply OKx_extract; exact rfl; ((conv => lhs; whnf) <;> exact rfl)) | (apply OKx_boxA; exact rfl; intro _) | (apply OKx_ldBA; exact rfl; (first | exact at0 | exact at1 | exact at2 | exact at3 | exact at4 | exact at5 | exact at6 | exact at7); exact rfl) | (apply OKx_ldRA; ((conv => lhs; whnf) <;> exact rfl); (with_reducible assumption)))
  first | refine bodyQ_r1 (by ((conv => lhs; whnf) <;> exact rfl)) ?_ | refine bodyQ_r2 (by ((conv => lhs; whnf) <;> exact rfl)) (by ((conv => lhs; whnf) <;> exact rfl)) ?_ | refine bodyQ_r3 (by ((conv => lhs; whnf) <;> exact rfl)) (by ((conv => lhs; whnf) <;> exact rfl)) (by ((conv => lhs; whnf) <;> exact rfl)) ?_ | refine bodyQ_r0 ?_ | refine bodyQ_n0 ?_
  refine ⟨_, Ent.sub (List.sublist_append_left _ _ |>.cons _), .inr ⟨by omega, _, rfl, fun _ w1 hp => ?_⟩⟩
  have := hZ _ w1 hp r (by omega)
  rwa [getD_lt _ _ _ (show r < vs.length by omega)] at this
end Go.Proofs.Ytmclgfipdgmomaa
namespace Go.Proofs.Ytmclgfipdgmomaa
open Go.RowKit
section
variable {P : Program} {ops : Array Oper} {Q : Exit → Act → World → Prop}
def pureLB (ops : Array Oper) : List Nat → Array Bool → Bool
  | [], _ => true
  | i :: E, listed => stepB ops [] listed i && pureLB ops E (listed.setIfInBounds i true)
def listE (E : List Nat) (listed : Array Bool) : Array Bool := E.foldl (fun l i => l.setIfInBounds i true) listed
theorem wpPure_mono {C : World → Prop} {Q1 Q2 : Act → Prop} (hq : ∀ a, Q1 a → Q2 a) : ∀ (l : List Oper) (a : Act), wpPure P ops C Q1 l a → wpPure P ops C Q2 l a
  | [], a, h => hq _ h
  | o :: l, a, h => by
    unfold wpPure at h ⊢
    split
    · rename_i hw
      rw [if_pos hw] at h
      obtain ⟨v, h1, h2⟩ := h
      exact ⟨v, h1, wpPure_mono hq l _ h2⟩
    · rename_i hw
      rw [if_neg hw] at h
      exact wpPure_mono hq l _ h
end
section
variable {P : Program} {n : Nat} {w0 : World} {Q : Exit → Fm → List Res → Prop} {K : Fm → List Res → Prop} {F : Fm} {L Lw : List Res} {l : List Oper} {N f : Nat} {S : List Nat}
def OKc (P : Program) (n : Nat) (w0 : World) (Lw : List Res) (K : Fm → List Res → Prop) (l : List Oper) (N f : Nat) (S : List Nat) (F : Fm) (L : List Res) : Prop :=
  ∀ w a, Fr n a F → Hp w0.heap.size w0 w L → anyC P l.toArray (fun _ w => Hp w0.heap.size w0 w Lw) (liftN n w0 K) f (maskS N S) a w
theorem OKc.use (h : OKc P n w0 Lw K l N f S F L) : ∀ w a, Fr n a F → Hp w0.heap.size w0 w L → anyC P l.toArray (fun _ w => Hp w0.heap.size w0 w Lw) (liftN n w0 K) f (maskS N S) a w := h
end
attribute [irreducible] OKc
end Go.Proofs.Ytmclgfipdgmomaa
