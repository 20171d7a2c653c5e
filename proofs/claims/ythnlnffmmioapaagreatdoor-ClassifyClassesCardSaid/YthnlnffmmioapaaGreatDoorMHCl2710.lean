/-
  Part 10 of the proof: Gd07, Gf07, Stl. No statement of the seat is proved here.
-/
import Derived.Test.YthnlnffmmioapaaGreatDoorMHCl279
import Derived.StringKeys
namespace Go.Proofs.YthnlnffmmioapaaGreatDoor
open Go.RowKit
theorem inner_eq (p : List UInt8) (k e : Nat) : (p.take (k + e)).drop (k + 1) = ((p.drop k).take e).drop 1 := by
  rw [List.drop_take, List.drop_take, List.drop_drop, show k + e - (k + 1) = e - 1 by omega]
theorem drop_get (p : List UInt8) (k : Nat) (h : k < p.length) : p.drop k = p.getD k 0 :: p.drop (k + 1) := by
  rw [List.drop_eq_getElem_cons h, getD_lt _ _ _ h]
theorem el_q {p : List UInt8} {c : UInt8} {r : List UInt8} (h : p = c :: r) (hc : c = 63) : elErr p = 0 ∧ elLen p = 1 ∧ elHas p = (fun _ => true) ∧ elAny p = false := by
  subst h; subst hc; exact ⟨rfl, rfl, rfl, rfl⟩
theorem el_s {p : List UInt8} {c : UInt8} {r : List UInt8} (h : p = c :: r) (hc : c = 42) : elErr p = 0 ∧ elLen p = 1 ∧ elHas p = (fun _ => false) ∧ elAny p = true := by
  subst h; subst hc; exact ⟨rfl, rfl, rfl, rfl⟩
theorem el_c {p : List UInt8} {c : UInt8} {r : List UInt8} (h : p = c :: r) (hc : c = 93) : elErr p = 3 := by
  subst h; subst hc; rfl
theorem el_p {p : List UInt8} {c : UInt8} {r : List UInt8} (h : p = c :: r) (h1 : c ≠ 63) (h2 : c ≠ 42) (h3 : c ≠ 91) (h4 : c ≠ 93) :
    elErr p = (if plainB c = true then 0 else 11) ∧ elLen p = 1 ∧ elHas p = (fun b => decide (b = c)) ∧ elAny p = false := by
  subst h
  refine ⟨?_, ?_, ?_, ?_⟩
  · unfold elErr; dsimp only; rw [if_neg (fun h => h.elim h1 h2), if_neg h3, if_neg h4]
  · unfold elLen; dsimp only; rw [if_neg h3]
  · unfold elHas; funext b; dsimp only; rw [if_neg h1, if_neg h2, if_neg h3]
  · unfold elAny; dsimp only; exact decide_eq_false h2
theorem el_b {p : List UInt8} {c : UInt8} {r : List UInt8} (h : p = c :: r) (hc : c = 91) :
    elErr p = (if closeI p = p.length ∨ closeI p < 2 then 3 else if (inner p).all chrB then 0 else 11) ∧ elLen p = closeI p + 1 ∧ elHas p = (fun b => (inner p).contains b) ∧ elAny p = false := by
  subst h; subst hc
  exact ⟨rfl, rfl, rfl, rfl⟩
theorem lt_succ_or (a b : Nat) : decide (a < b + 1) = (decide (a < b) || decide (a = b)) := by
  by_cases h : a < b
  · rw [decide_eq_true h, decide_eq_true (Nat.lt_succ_of_lt h)]; rfl
  · by_cases h' : a = b
    · rw [decide_eq_true h', decide_eq_true (h' ▸ Nat.lt_succ_self a), Bool.or_true]
    · rw [decide_eq_false h, decide_eq_false h', decide_eq_false (by omega)]; rfl
theorem cont_snoc (l : List UInt8) (c b : UInt8) : (l ++ [c]).contains b = (l.contains b || decide (b.toNat = c.toNat)) := by
  rw [List.contains_append, List.contains_cons, List.contains_nil, Bool.or_false]
  congr 1
  rw [← decide_eq_decide.2 (UInt8.toNat_inj (a := b) (b := c)).symm]
  rfl
def elsR (p : List UInt8) (u : Value) (L : List Res) : Prop :=
  (patE p ≠ 0 ∧ u = .tuple #[.slice none 0 0, .int .i64 (patE p)] ∧ L = []) ∨ (patE p = 0 ∧ ∃ v, u = .tuple #[v, .int .i64 0] ∧ L = [.row 147 259 v (prts p).length (elsC 0 (prts p))])
set_option maxRecDepth 100000 in
set_option maxHeartbeats 4000000 in
theorem elements_sat (p : List UInt8) (w : World) (hp0 : p.length ≤ 140737488355328) : Sat Tryz.prog 122 [.string (bOf p)] w (elsR p) := by
  have hz : (bOf p).size = p.length := bOf_size p
  by_cases hl : 64 < p.length
  · have he : patE p = 4 := if_pos hl
    refine SatL.of 95 [2, 3] Tryz.func122 (by kernel_rfl) (by kernel_rfl) rfl rfl rfl rfl ?_
    repeat' (first|(apply OK_seq)|(apply thenQ_n)|(apply OK_region)|(apply OKx_nilK)|(apply thenQ_r)|(apply OK_condT;exact rfl)|(apply OK_ret)|(apply OKx_move;(conv=>lhs;whnf)<;>exact rfl)|(apply OKx_assign;(conv=>lhs;whnf)<;>exact rfl)|(apply OKx_lenS;exact rfl)|(apply OKx_gtr;exact rfl;exact rfl;all_goals (intro _; try (exfalso;omega))))
    refine bodyQ_r2 (by ((conv=>lhs;whnf)<;>exact rfl)) (by ((conv=>lhs;whnf)<;>exact rfl)) ?_
    exact ⟨_, Ent.nil, .inl ⟨by rw [he]; decide, by rw [he] <;> rfl, rfl⟩⟩
  have hpe : patE p = errP p := if_neg hl
  refine SatL.of 95 [2, 3] Tryz.func122 (by kernel_rfl) (by kernel_rfl) rfl rfl rfl rfl ?_
  repeat' (first|(apply OK_seq)|(apply thenQ_n)|(apply OK_region)|(apply OKx_nilK)|(apply OK_block)|(apply OK_condF;exact rfl)|(apply OK_skip)|(apply OKx_move;(conv=>lhs;whnf)<;>exact rfl)|(apply OKx_assign;(conv=>lhs;whnf)<;>exact rfl)|(apply OKx_lenS;exact rfl)|(apply OKx_gtr;exact rfl;exact rfl;all_goals (intro _; try (exfalso;omega))))
  refine OK_loop2 4 5 [2, 3, 4, 5, 6, 7, 8, 9, 11, 15, 16, 17, 18, 19, 20, 21, 22, 23, 24, 25, 26, 27, 28, 29, 30, 31, 32, 33, 34, 35, 36, 37, 38, 39, 40, 41, 42, 43, 44, 45, 46, 47, 48, 49, 50, 51, 52, 53, 54, 55, 56, 57, 58, 59, 60, 61, 62, 63, 64, 65, 66, 67, 68, 69, 70, 71, 72, 73, 74, 75, 76, 77, 78, 79, 80, 81, 82, 83, 84, 85, 86, 87, 88, 89, 90, 91, 92, 93] (fun mm v4 u L => ∃ (k : Nat) (v : Value) (done : List (List UInt8)), v4 = v ∧ u = .int .i64 (k : Int) ∧ inv p k done ∧ mm = p.length - k ∧ L = [.row 147 259 v done.length (elsC 0 done)]) p.length _ (Ent.mk fun w1 h => h.nil _ _) ⟨0, _, [], rfl, rfl, inv_0 p, by omega, by rw [elsC_nil] <;> rfl⟩ ?_
  rintro mm v4 u L G ⟨k, v, done, rfl, rfl, hin, hmm, rfl⟩
  have hin' := hin
  obtain ⟨hkl, hpr, herr, hfl, hdl⟩ := hin
  by_cases hk : k < p.length
  · have hdg := drop_get p k hk
    have hnx' := fun he => inv_next hin' hk he
    have hbd := fun he => inv_bad hin' hk he
    by_cases c63 : p.getD k 0 = 63
    · have hcv : (p.getD k 0).toNat = 63 := by rw [c63] <;> rfl
      obtain ⟨e0, e1, e2, e3⟩ := el_q hdg c63
      have hnx := hnx' e0
      repeat' (first|(apply OK_seq)|(apply thenQ_n)|(apply OK_region)|(refine OKx_idxB7 (i := k) rfl rfl hk ?_; rw [hcv])|(refine OKx_buildG [(2, .int .i64 (k : Int)), (3, .int .i64 ((k + 1 : Nat) : Int))] (xC false (fun _ => false) (k : Int) ((k + 1 : Nat) : Int)).toArray rfl (xC_build _ _) ?_)|(apply OKx_gs; refine OKx_stBA (by kernel_rfl) (cs' := (xC false (fun _ => false) (k : Int) ((k + 1 : Nat) : Int)).toArray) 0 rfl rfl (List.all_eq_true.2 (xC_one _ _ _ _)) rfl (by rw [List.toList_toArray, xC_len] <;> kernel_rfl) (by rw [List.toList_toArray, xC_len] <;> rfl) rfl ?_)|(apply OKx_nilK)|(apply OK_block)|(apply OK_condT;exact rfl)|(apply OK_skip)|(apply OKx_move;(conv=>lhs;whnf)<;>exact rfl)|(apply OKx_assign;(conv=>lhs;whnf)<;>exact rfl)|(apply OKx_lenS;exact rfl)|(apply OKx_lss;exact rfl;exact rfl;all_goals (intro _; try (exfalso;omega)))|(apply OKx_eql;exact rfl;exact rfl;all_goals (intro _; try (exfalso;omega)))|(apply OKx_inc;exact rfl;exact rfl;omega)|(apply OKx_allocA;intro _))
      rename_i gx _
      refine OK_loop1 32 [8, 32, 33, 34, 35, 36, 37, 38] (fun mm u L => ∃ j : Nat, j + mm = 256 ∧ u = .int .i64 (j : Int) ∧ L = [.box 147 gx (xC false (fun b => decide (b.toNat < j)) (k : Int) ((k + 1 : Nat) : Int)), .row 147 259 v4 done.length (elsC 0 done)]) 256 _ (Ent.refl _ _) ⟨0, rfl, rfl, by rw [show (fun b : UInt8 => decide (b.toNat < 0)) = fun _ => false from funext fun b => decide_eq_false (Nat.not_lt_zero _)] <;> rfl⟩ ?_
      rintro mm u L G2 ⟨j, hjm, rfl, rfl⟩
      by_cases hj : j < 256
      · repeat' (first|(apply OK_seq)|(apply thenQ_n)|(apply OK_region)|(apply OKx_gi; refine OKx_idxA (i := j) Tryz.underlying145 rfl rfl hj ?_)|(apply OKx_gs; refine OKx_stBg (k := 1 + j) (cs := xC false (fun b => decide (b.toNat < j)) (k : Int) ((k + 1 : Nat) : Int)) 0 rfl rfl rfl rfl rfl (by rw [xC_len];omega) (xC_set _ _ (fun b => decide (b.toNat < j + 1)) _ _ j hj (fun b => lt_succ_or _ _)) rfl ?_)|(apply OKx_nilK)|(apply OK_block)|(apply blockQ_n)|(apply OK_condT;exact rfl)|(apply OK_skip)|(apply OKx_move;(conv=>lhs;whnf)<;>exact rfl)|(apply OKx_assign;(conv=>lhs;whnf)<;>exact rfl)|(apply OKx_lss;exact rfl;exact rfl;all_goals (intro _; try (exfalso;omega)))|(apply OKx_fldO;exact rfl;exact rfl)|(apply OKx_inc;exact rfl;exact rfl;omega))
        refine ⟨by (repeat' (first | refine agree_upd rfl ?_ | exact agree_over | exact agree_refl _ _ | refine agree_over2 rfl ?_)), mm - 1, _, by omega, Ent.refl _ _, ?_⟩
        exact ⟨j + 1, by omega, rfl, rfl⟩
      obtain rfl : j = 256 := by omega
      rw [show (fun b : UInt8 => decide (b.toNat < 256)) = fun _ => true from funext fun b => decide_eq_true b.toNat_lt]
      repeat' (first|(apply OK_seq)|(apply thenQ_n)|(apply OK_region)|(apply OKx_gl; refine OKx_ldBA (cs := (xC false (fun _ => true) (k : Int) ((k + 1 : Nat) : Int))) 0 rfl rfl (xC_len _ _ _ _) ?_)|(apply OKx_gt; refine OKx_slit1A (cs := (xC false (fun _ => true) (k : Int) ((k + 1 : Nat) : Int))) rfl (by rw [xC_len] <;> rfl) rfl ?_; intro gl)|(apply OKx_gb; refine OKx_appEl (ys := (xC false (fun _ => true) (k : Int) ((k + 1 : Nat) : Int))) 2 0 rfl rfl rfl rfl (xC_len _ _ _ _) (xC_one _ _ _ _) (by omega) (by omega) ?_; intro gr cr)|(apply OKx_gl; refine OKx_ldB (k := 258) (e := 147) (cs := (xC false (fun _ => true) (k : Int) ((k + 1 : Nat) : Int))) 1 rfl rfl (xC_at258 _ _ _ _) ?_)|(apply OKx_nilK)|(apply blockQ_n)|(apply blockQ_s)|(apply thenQ_e)|(apply OK_condF;exact rfl)|(apply OK_exit)|(apply OKx_move;(conv=>lhs;whnf)<;>exact rfl)|(apply OKx_assign;(conv=>lhs;whnf)<;>exact rfl)|(apply OKx_lss;exact rfl;exact rfl;all_goals (intro _; try (exfalso;omega)))|(apply OKx_fldO;exact rfl;exact rfl))
      refine ⟨by (repeat' (first | refine agree_upd rfl ?_ | exact agree_over | exact agree_refl _ _ | refine agree_over2 rfl ?_)), p.length - (k + elLen (p.drop k)), _, by omega, Ent.pick [2] rfl, ?_⟩
      exact ⟨k + elLen (p.drop k), _, _, rfl, by rw [e1] <;> rfl, hnx.1, rfl, by rw [← hnx.2.1, e1, e2, e3, List.length_append] <;> rfl⟩
    by_cases c42 : p.getD k 0 = 42
    · have hcv : (p.getD k 0).toNat = 42 := by rw [c42] <;> rfl
      obtain ⟨e0, e1, e2, e3⟩ := el_s hdg c42
      have hnx := hnx' e0
      repeat' (first|(apply OK_seq)|(apply thenQ_n)|(apply OK_region)|(refine OKx_idxB7 (i := k) rfl rfl hk ?_; rw [hcv])|(refine OKx_buildG [(2, .int .i64 (k : Int)), (3, .int .i64 ((k + 1 : Nat) : Int))] (xC false (fun _ => false) (k : Int) ((k + 1 : Nat) : Int)).toArray rfl (xC_build _ _) ?_)|(apply OKx_gs; refine OKx_stBA (by kernel_rfl) (cs' := (xC false (fun _ => false) (k : Int) ((k + 1 : Nat) : Int)).toArray) 0 rfl rfl (List.all_eq_true.2 (xC_one _ _ _ _)) rfl (by rw [List.toList_toArray, xC_len] <;> kernel_rfl) (by rw [List.toList_toArray, xC_len] <;> rfl) rfl ?_)|(apply OKx_gs; refine OKx_stBg (k := 0) (cs := xC false (fun _ => false) (k : Int) ((k + 1 : Nat) : Int)) 0 rfl rfl rfl rfl rfl (by rw [xC_len];omega) (xC_any _ _ _ _) rfl ?_)|(apply OKx_gl; refine OKx_ldBA (cs := (xC true (fun _ => false) (k : Int) ((k + 1 : Nat) : Int))) 0 rfl rfl (xC_len _ _ _ _) ?_)|(apply OKx_gt; refine OKx_slit1A (cs := (xC true (fun _ => false) (k : Int) ((k + 1 : Nat) : Int))) rfl (by rw [xC_len] <;> rfl) rfl ?_; intro gl)|(apply OKx_gb; refine OKx_appEl (ys := (xC true (fun _ => false) (k : Int) ((k + 1 : Nat) : Int))) 2 0 rfl rfl rfl rfl (xC_len _ _ _ _) (xC_one _ _ _ _) (by omega) (by omega) ?_; intro gr cr)|(apply OKx_gl; refine OKx_ldB (k := 258) (e := 147) (cs := (xC true (fun _ => false) (k : Int) ((k + 1 : Nat) : Int))) 1 rfl rfl (xC_at258 _ _ _ _) ?_)|(apply OKx_nilK)|(apply OK_block)|(apply blockQ_n)|(apply OK_condT;exact rfl)|(apply OK_condF;exact rfl)|(apply OK_skip)|(apply OKx_move;(conv=>lhs;whnf)<;>exact rfl)|(apply OKx_assign;(conv=>lhs;whnf)<;>exact rfl)|(apply OKx_lenS;exact rfl)|(apply OKx_lss;exact rfl;exact rfl;all_goals (intro _; try (exfalso;omega)))|(apply OKx_eql;exact rfl;exact rfl;all_goals (intro _; try (exfalso;omega)))|(apply OKx_fldO;exact rfl;exact rfl)|(apply OKx_inc;exact rfl;exact rfl;omega)|(apply OKx_allocA;intro _))
      refine ⟨by (repeat' (first | refine agree_upd rfl ?_ | exact agree_over | exact agree_refl _ _ | refine agree_over2 rfl ?_)), p.length - (k + elLen (p.drop k)), _, by omega, Ent.pick [2] rfl, ?_⟩
      exact ⟨k + elLen (p.drop k), _, _, rfl, by rw [e1] <;> rfl, hnx.1, rfl, by rw [← hnx.2.1, e1, e2, e3, List.length_append] <;> rfl⟩
    by_cases c91 : p.getD k 0 = 91
    · have hcv : (p.getD k 0).toNat = 91 := by rw [c91] <;> rfl
      obtain ⟨e0, e1, e2, e3⟩ := el_b hdg c91
      have hix := fun w1 => idxByte_sat (p.drop k) 93 w1
      rw [idxB_eq] at hix
      have hcl : ((p.drop k).takeWhile (fun x => decide (x ≠ 93))).length = closeI (p.drop k) := rfl
      rw [hcl] at hix
      have hqln : (p.drop k).length = p.length - k := List.length_drop
      have hcle := closeI_le (p.drop k)
      by_cases hbad : closeI (p.drop k) = (p.drop k).length ∨ closeI (p.drop k) < 2
      · rw [if_pos hbad] at e0
        have hee := hbd (by rw [e0]; decide)
        rw [e0] at hee
        generalize hev : (if closeI (p.drop k) = (p.drop k).length then (-1 : Int) else (closeI (p.drop k) : Int)) = ev at hix
        have hev2 : ev < 2 := by
          rw [← hev]
          split
          · decide
          · rcases hbad with hbad | hbad
            · omega
            · omega
        repeat' (first|(apply OK_seq)|(apply thenQ_n)|(apply OK_region)|(refine OKx_idxB7 (i := k) rfl rfl hk ?_; rw [hcv])|(refine OKx_buildG [(2, .int .i64 (k : Int)), (3, .int .i64 ((k + 1 : Nat) : Int))] (xC false (fun _ => false) (k : Int) ((k + 1 : Nat) : Int)).toArray rfl (xC_build _ _) ?_)|(apply OKx_gs; refine OKx_stBA (by kernel_rfl) (cs' := (xC false (fun _ => false) (k : Int) ((k + 1 : Nat) : Int)).toArray) 0 rfl rfl (List.all_eq_true.2 (xC_one _ _ _ _)) rfl (by rw [List.toList_toArray, xC_len] <;> kernel_rfl) (by rw [List.toList_toArray, xC_len] <;> rfl) rfl ?_)|(refine OKx_sslL7 (l := k) rfl rfl hkl rfl ?_)|(apply OKx_gc 121;exact rfl; refine OKx_callV (f := 121) (v := .int .i64 ev) rfl rfl rfl (fun w1 hp => hix w1) ?_)|(apply OKx_nilK)|(apply OK_block)|(apply thenQ_r)|(apply blockQ_r)|(apply OK_condT;exact rfl)|(apply OK_condF;exact rfl)|(apply OK_skip)|(apply OK_ret)|(apply OKx_move;(conv=>lhs;whnf)<;>exact rfl)|(apply OKx_assign;(conv=>lhs;whnf)<;>exact rfl)|(apply OKx_lenS;exact rfl)|(apply OKx_lss;exact rfl;exact rfl;all_goals (intro _; try (exfalso;omega)))|(apply OKx_eql;exact rfl;exact rfl;all_goals (intro _; try (exfalso;omega)))|(apply OKx_inc;exact rfl;exact rfl;omega)|(apply OKx_allocA;intro _))
        refine bodyQ_r2 (by ((conv=>lhs;whnf)<;>exact rfl)) (by ((conv=>lhs;whnf)<;>exact rfl)) ?_
        exact ⟨_, Ent.nil, .inl ⟨by rw [hpe, hee]; decide, by rw [hpe, hee] <;> rfl, rfl⟩⟩
      rw [if_neg hbad] at e0
      rw [if_neg (fun h => hbad (.inl h))] at hix
      obtain ⟨ec, hec⟩ : ∃ ec, closeI (p.drop k) = ec := ⟨_, rfl⟩
      have hinn := inner_eq p k ec
      have hinn2 : ((p.drop k).take ec).drop 1 = inner (p.drop k) := by rw [← hec]; rfl
      rw [hinn2] at hinn
      rw [hec] at hbad hix hcle e1
      have hb1 : ec < (p.drop k).length := by omega
      have hb2 : 2 ≤ ec := by omega
      have hil : (inner (p.drop k)).length ≤ 64 := by rw [← hinn2, List.length_drop, List.length_take];omega
      generalize hiq : inner (p.drop k) = q at hinn e0 e2 hil
      repeat' (first|(apply OK_seq)|(apply thenQ_n)|(apply OK_region)|(refine OKx_idxB7 (i := k) rfl rfl hk ?_; rw [hcv])|(refine OKx_buildG [(2, .int .i64 (k : Int)), (3, .int .i64 ((k + 1 : Nat) : Int))] (xC false (fun _ => false) (k : Int) ((k + 1 : Nat) : Int)).toArray rfl (xC_build _ _) ?_)|(apply OKx_gs; refine OKx_stBA (by kernel_rfl) (cs' := (xC false (fun _ => false) (k : Int) ((k + 1 : Nat) : Int)).toArray) 0 rfl rfl (List.all_eq_true.2 (xC_one _ _ _ _)) rfl (by rw [List.toList_toArray, xC_len] <;> kernel_rfl) (by rw [List.toList_toArray, xC_len] <;> rfl) rfl ?_)|(refine OKx_sslL7 (l := k) rfl rfl hkl rfl ?_)|(apply OKx_gc 121;exact rfl; refine OKx_callV (f := 121) (v := .int .i64 (ec : Int)) rfl rfl rfl (fun w1 hp => hix w1) ?_)|(refine OKx_sslLH (l := k + 1) (h := k + ec) rfl rfl rfl (by omega) (by omega) hinn ?_)|(refine OKx_convSB rfl Tryz.underlying9 Tryz.underlying92 Tryz.underlying5 ?_; intro gb cb)|(apply OKx_nilK)|(apply OK_block)|(apply OK_condT;exact rfl)|(apply OK_condF;exact rfl)|(apply OK_skip)|(apply OKx_move;(conv=>lhs;whnf)<;>exact rfl)|(apply OKx_assign;(conv=>lhs;whnf)<;>exact rfl)|(apply OKx_len;exact rfl)|(apply OKx_lenS;exact rfl)|(apply OKx_lss;exact rfl;exact rfl;all_goals (intro _; try (exfalso;omega)))|(apply OKx_eql;exact rfl;exact rfl;all_goals (intro _; try (exfalso;omega)))|(apply OKx_inc;exact rfl;exact rfl;omega)|(apply OKx_addN;exact rfl;exact rfl;omega)|(apply OKx_allocA;intro _))
      rename_i gx _ _ gb cb
      refine OK_loop1 61 [2, 3, 11, 61, 62, 63, 64, 65, 66, 67, 68, 69, 70, 71, 72, 73, 74, 75] (fun mm u L => ∃ j : Nat, j + mm = q.length ∧ u = .int .i64 (j : Int) ∧ (q.take j).all chrB = true ∧ L = [.obj gb (BytesAt q), .box 147 gx (xC false (fun b => (q.take j).contains b) (k : Int) ((k + 1 : Nat) : Int)), .row 147 259 v4 done.length (elsC 0 done)]) q.length _ (Ent.refl _ _) ⟨0, by omega, rfl, rfl, by rw [List.take_zero] <;> rfl⟩ ?_
      rintro mm u L G2 ⟨j, hjm, rfl, hall, rfl⟩
      by_cases hj : j < q.length
      · have hqj : q[j]? = some (q.getD j 0) := by rw [getD_lt _ _ _ hj]; exact List.getElem?_eq_getElem hj
        have htk : q.take (j + 1) = q.take j ++ [q.getD j 0] := by rw [List.take_add_one, hqj]; rfl
        have hlt := (q.getD j 0).toNat_lt
        have hset := xC_set false (fun b => (q.take j).contains b) (fun b => (q.take (j + 1)).contains b) (k : Int) ((k + 1 : Nat) : Int) (q.getD j 0).toNat hlt (fun b => by
          rw [htk]
          exact cont_snoc _ _ _)
        have hga : ∀ r', chrB (q.getD j 0) = r' → (q.take (j + 1)).all chrB = r' := fun r' h => by
          rw [htk, List.all_append, hall, Bool.true_and, List.all_cons, List.all_nil, Bool.and_true, h]
        cases hpl : plainB (q.getD j 0) with
        | true =>
          have hch : chrB (q.getD j 0) = true := by unfold chrB; rw [hpl]; rfl
          repeat' (first|(apply OK_seq)|(apply thenQ_n)|(apply OK_region)|(apply OKx_gl; refine OKx_ldO (k := j) 0 rfl rfl hj ?_)|(apply OKx_gc 129;exact rfl; refine OKx_callV (f := 129) (v := .bool true) rfl rfl rfl (fun w1 hp => by have := plain_sat (q.getD j 0) w1; rwa [hpl] at this) ?_)|(apply OKx_gi; refine OKx_idxA (i := (q.getD j 0).toNat) Tryz.underlying145 rfl rfl hlt ?_)|(apply OKx_gs; refine OKx_stBg (k := 1 + (q.getD j 0).toNat) (cs := xC false (fun b => (q.take j).contains b) (k : Int) ((k + 1 : Nat) : Int)) 1 rfl rfl rfl rfl rfl (by rw [xC_len];omega) hset rfl ?_)|(apply OKx_nilK)|(apply OK_block)|(apply blockQ_n)|(apply OK_condT;exact rfl)|(apply OK_condF;exact rfl)|(apply OK_skip)|(apply OKx_move;(conv=>lhs;whnf)<;>exact rfl)|(apply OKx_assign;(conv=>lhs;whnf)<;>exact rfl)|(apply OKx_lss;exact rfl;exact rfl;all_goals (intro _; try (exfalso;omega)))|(apply OKx_idxO;exact rfl;exact rfl;omega)|(apply OKx_fldO;exact rfl;exact rfl)|(apply OKx_inc;exact rfl;exact rfl;omega)|(apply OKx_pickF;exact rfl;(conv=>lhs;whnf)<;>exact rfl)|(apply OKx_guardF;exact rfl;exact rfl)|(apply OKx_notT;exact rfl))
          refine ⟨by (repeat' (first | refine agree_upd rfl ?_ | exact agree_over | exact agree_refl _ _ | refine agree_over2 rfl ?_)), mm - 1, _, by omega, Ent.refl _ _, ?_⟩
          exact ⟨j + 1, by omega, rfl, hga _ hch, rfl⟩
        | false =>
          by_cases c42' : q.getD j 0 = 42
          · have hch : chrB (q.getD j 0) = true := by unfold chrB; rw [c42', decide_eq_true rfl, Bool.or_true]
            have hcv2 : (q.getD j 0).toNat = 42 := by rw [c42'] <;> rfl
            repeat' (first|(apply OK_seq)|(apply thenQ_n)|(apply OK_region)|(apply OKx_gl; refine OKx_ldO (k := j) 0 rfl rfl hj ?_)|(apply OKx_gc 129;exact rfl; refine OKx_callV (f := 129) (v := .bool false) rfl rfl rfl (fun w1 hp => by have := plain_sat (q.getD j 0) w1; rwa [hpl] at this) ?_)|(apply OKx_gi; refine OKx_idxA (i := (q.getD j 0).toNat) Tryz.underlying145 rfl rfl hlt ?_)|(apply OKx_gs; refine OKx_stBg (k := 1 + (q.getD j 0).toNat) (cs := xC false (fun b => (q.take j).contains b) (k : Int) ((k + 1 : Nat) : Int)) 1 rfl rfl rfl rfl rfl (by rw [xC_len];omega) hset rfl ?_)|(apply OKx_nilK)|(apply OK_block)|(apply blockQ_n)|(apply OK_condT;exact rfl)|(apply OK_condF;exact rfl)|(apply OK_skip)|(apply OKx_move;(conv=>lhs;whnf)<;>exact rfl)|(apply OKx_assign;(conv=>lhs;whnf)<;>exact rfl)|(apply OKx_lss;exact rfl;exact rfl;all_goals (intro _; try (exfalso;omega)))|(apply OKx_neq;exact rfl;exact rfl;all_goals (intro _; try (exfalso;omega)))|(apply OKx_idxO;exact rfl;exact rfl;omega)|(apply OKx_fldO;exact rfl;exact rfl)|(apply OKx_inc;exact rfl;exact rfl;omega)|(apply OKx_pickT;exact rfl;(conv=>lhs;whnf)<;>exact rfl)|(apply OKx_guardT;exact rfl;exact rfl)|(apply OKx_notF;exact rfl))
            refine ⟨by (repeat' (first | refine agree_upd rfl ?_ | exact agree_over | exact agree_refl _ _ | refine agree_over2 rfl ?_)), mm - 1, _, by omega, Ent.refl _ _, ?_⟩
            exact ⟨j + 1, by omega, rfl, hga _ hch, rfl⟩
          · have hch : chrB (q.getD j 0) = false := by unfold chrB; rw [hpl, decide_eq_false c42']; rfl
            have hne42 : ¬ (q.getD j 0).toNat = 42 := fun h => c42' (by rw [← UInt8.toNat_inj, h]; rfl)
            have hno : ¬ q.all chrB = true := fun h => by
              have := List.all_eq_true.1 h _ (List.mem_of_getElem? hqj)
              rw [hch] at this; cases this
            rw [if_neg hno] at e0
            have hee := hbd (by rw [e0]; decide)
            rw [e0] at hee
            repeat' (first|(apply OK_seq)|(apply thenQ_n)|(apply OK_region)|(apply OKx_gl; refine OKx_ldO (k := j) 0 rfl rfl hj ?_)|(apply OKx_gc 129;exact rfl; refine OKx_callV (f := 129) (v := .bool false) rfl rfl rfl (fun w1 hp => by have := plain_sat (q.getD j 0) w1; rwa [hpl] at this) ?_)|(apply OKx_nilK)|(apply OK_block)|(apply thenQ_r)|(apply blockQ_r)|(apply OK_condT;exact rfl)|(apply OK_skip)|(apply OK_ret)|(apply OKx_move;(conv=>lhs;whnf)<;>exact rfl)|(apply OKx_assign;(conv=>lhs;whnf)<;>exact rfl)|(apply OKx_lss;exact rfl;exact rfl;all_goals (intro _; try (exfalso;omega)))|(apply OKx_neq;exact rfl;exact rfl;all_goals (intro _; try (exfalso;omega)))|(apply OKx_idxO;exact rfl;exact rfl;omega)|(apply OKx_pickT;exact rfl;(conv=>lhs;whnf)<;>exact rfl)|(apply OKx_guardT;exact rfl;exact rfl)|(apply OKx_notF;exact rfl))
            refine bodyQ_r2 (by ((conv=>lhs;whnf)<;>exact rfl)) (by ((conv=>lhs;whnf)<;>exact rfl)) ?_
            exact ⟨_, Ent.nil, .inl ⟨by rw [hpe, hee]; decide, by rw [hpe, hee] <;> rfl, rfl⟩⟩
      obtain rfl : j = q.length := by omega
      rw [List.take_length] at hall ⊢
      rw [if_pos hall] at e0
      have hnx := hnx' e0
      repeat' (first|(apply OK_seq)|(apply thenQ_n)|(apply OK_region)|(apply OKx_gs; refine OKx_stBg (k := 258) (cs := xC false (fun b => q.contains b) (k : Int) ((k + 1 : Nat) : Int)) 1 rfl rfl rfl rfl rfl (by rw [xC_len];omega) (xC_to _ _ _ _ _) rfl ?_)|(apply OKx_gl; refine OKx_ldBA (cs := (xC false (fun b => q.contains b) (k : Int) ((k + ec + 1 : Nat) : Int))) 1 rfl rfl (xC_len _ _ _ _) ?_)|(apply OKx_gt; refine OKx_slit1A (cs := (xC false (fun b => q.contains b) (k : Int) ((k + ec + 1 : Nat) : Int))) rfl (by rw [xC_len] <;> rfl) rfl ?_; intro gl)|(apply OKx_gb; refine OKx_appEl (ys := (xC false (fun b => q.contains b) (k : Int) ((k + ec + 1 : Nat) : Int))) 3 0 rfl rfl rfl rfl (xC_len _ _ _ _) (xC_one _ _ _ _) (by omega) (by omega) ?_; intro gr cr)|(apply OKx_gl; refine OKx_ldB (k := 258) (e := 147) (cs := (xC false (fun b => q.contains b) (k : Int) ((k + ec + 1 : Nat) : Int))) 2 rfl rfl (xC_at258 _ _ _ _) ?_)|(apply OKx_nilK)|(apply blockQ_n)|(apply blockQ_s)|(apply thenQ_e)|(apply OK_condF;exact rfl)|(apply OK_exit)|(apply OKx_move;(conv=>lhs;whnf)<;>exact rfl)|(apply OKx_assign;(conv=>lhs;whnf)<;>exact rfl)|(apply OKx_lss;exact rfl;exact rfl;all_goals (intro _; try (exfalso;omega)))|(apply OKx_fldO;exact rfl;exact rfl)|(apply OKx_inc;exact rfl;exact rfl;omega)|(apply OKx_addN;exact rfl;exact rfl;omega))
      refine ⟨by (repeat' (first | refine agree_upd rfl ?_ | exact agree_over | exact agree_refl _ _ | refine agree_over2 rfl ?_)), p.length - (k + elLen (p.drop k)), _, by omega, Ent.pick [3] rfl, ?_⟩
      exact ⟨k + elLen (p.drop k), _, _, rfl, by rw [e1] <;> rfl, hnx.1, rfl, by rw [← hnx.2.1, e1, e2, e3, ← Nat.add_assoc, List.length_append] <;> rfl⟩
    by_cases c93 : p.getD k 0 = 93
    · have hcv : (p.getD k 0).toNat = 93 := by rw [c93] <;> rfl
      have e0 := el_c hdg c93
      have hee := hbd (by rw [e0]; decide)
      rw [e0] at hee
      repeat' (first|(apply OK_seq)|(apply thenQ_n)|(apply OK_region)|(refine OKx_idxB7 (i := k) rfl rfl hk ?_; rw [hcv])|(refine OKx_buildG [(2, .int .i64 (k : Int)), (3, .int .i64 ((k + 1 : Nat) : Int))] (xC false (fun _ => false) (k : Int) ((k + 1 : Nat) : Int)).toArray rfl (xC_build _ _) ?_)|(apply OKx_gs; refine OKx_stBA (by kernel_rfl) (cs' := (xC false (fun _ => false) (k : Int) ((k + 1 : Nat) : Int)).toArray) 0 rfl rfl (List.all_eq_true.2 (xC_one _ _ _ _)) rfl (by rw [List.toList_toArray, xC_len] <;> kernel_rfl) (by rw [List.toList_toArray, xC_len] <;> rfl) rfl ?_)|(apply OKx_nilK)|(apply OK_block)|(apply thenQ_r)|(apply blockQ_r)|(apply OK_condT;exact rfl)|(apply OK_condF;exact rfl)|(apply OK_skip)|(apply OK_ret)|(apply OKx_move;(conv=>lhs;whnf)<;>exact rfl)|(apply OKx_assign;(conv=>lhs;whnf)<;>exact rfl)|(apply OKx_lenS;exact rfl)|(apply OKx_lss;exact rfl;exact rfl;all_goals (intro _; try (exfalso;omega)))|(apply OKx_eql;exact rfl;exact rfl;all_goals (intro _; try (exfalso;omega)))|(apply OKx_inc;exact rfl;exact rfl;omega)|(apply OKx_allocA;intro _))
      refine bodyQ_r2 (by ((conv=>lhs;whnf)<;>exact rfl)) (by ((conv=>lhs;whnf)<;>exact rfl)) ?_
      exact ⟨_, Ent.nil, .inl ⟨by rw [hpe, hee]; decide, by rw [hpe, hee] <;> rfl, rfl⟩⟩
    obtain ⟨e0, e1, e2, e3⟩ := el_p hdg c63 c42 c91 c93
    have hne : ∀ d : UInt8, ¬ p.getD k 0 = d → ¬ (p.getD k 0).toNat = d.toNat := fun d h h2 => h (UInt8.toNat_inj.1 h2)
    have n1 : ¬ (p.getD k 0).toNat = 63 := hne 63 c63
    have n2 : ¬ (p.getD k 0).toNat = 42 := hne 42 c42
    have n3 : ¬ (p.getD k 0).toNat = 91 := hne 91 c91
    have n4 : ¬ (p.getD k 0).toNat = 93 := hne 93 c93
    have hlt := (p.getD k 0).toNat_lt
    cases hpl : plainB (p.getD k 0) with
    | false =>
      rw [hpl, if_neg (by decide)] at e0
      have hee := hbd (by rw [e0]; decide)
      rw [e0] at hee
      repeat' (first|(apply OK_seq)|(apply thenQ_n)|(apply OK_region)|(refine OKx_idxB7 (i := k) rfl rfl hk ?_)|(refine OKx_buildG [(2, .int .i64 (k : Int)), (3, .int .i64 ((k + 1 : Nat) : Int))] (xC false (fun _ => false) (k : Int) ((k + 1 : Nat) : Int)).toArray rfl (xC_build _ _) ?_)|(apply OKx_gs; refine OKx_stBA (by kernel_rfl) (cs' := (xC false (fun _ => false) (k : Int) ((k + 1 : Nat) : Int)).toArray) 0 rfl rfl (List.all_eq_true.2 (xC_one _ _ _ _)) rfl (by rw [List.toList_toArray, xC_len] <;> kernel_rfl) (by rw [List.toList_toArray, xC_len] <;> rfl) rfl ?_)|(apply OKx_gc 129;exact rfl; refine OKx_callV (f := 129) (v := .bool false) rfl rfl rfl (fun w1 hp => by have := plain_sat (p.getD k 0) w1; rwa [hpl] at this) ?_)|(apply OKx_nilK)|(apply OK_block)|(apply thenQ_r)|(apply blockQ_r)|(apply OK_condT;exact rfl)|(apply OK_condF;exact rfl)|(apply OK_skip)|(apply OK_ret)|(apply OKx_move;(conv=>lhs;whnf)<;>exact rfl)|(apply OKx_assign;(conv=>lhs;whnf)<;>exact rfl)|(apply OKx_lenS;exact rfl)|(apply OKx_lss;exact rfl;exact rfl;all_goals (intro _; try (exfalso;omega)))|(apply OKx_eql;exact rfl;exact rfl;all_goals (intro _; try (exfalso;omega)))|(apply OKx_inc;exact rfl;exact rfl;omega)|(apply OKx_notF;exact rfl)|(apply OKx_allocA;intro _))
      refine bodyQ_r2 (by ((conv=>lhs;whnf)<;>exact rfl)) (by ((conv=>lhs;whnf)<;>exact rfl)) ?_
      exact ⟨_, Ent.nil, .inl ⟨by rw [hpe, hee]; decide, by rw [hpe, hee] <;> rfl, rfl⟩⟩
    | true =>
      rw [hpl, if_pos rfl] at e0
      have hnx := hnx' e0
      have hset := xC_set false (fun _ => false) (fun b => decide (b = p.getD k 0)) (k : Int) ((k + 1 : Nat) : Int) (p.getD k 0).toNat hlt (fun b => by rw [Bool.false_or]; exact decide_eq_decide.2 UInt8.toNat_inj.symm)
      repeat' (first|(apply OK_seq)|(apply thenQ_n)|(apply OK_region)|(refine OKx_idxB7 (i := k) rfl rfl hk ?_)|(refine OKx_buildG [(2, .int .i64 (k : Int)), (3, .int .i64 ((k + 1 : Nat) : Int))] (xC false (fun _ => false) (k : Int) ((k + 1 : Nat) : Int)).toArray rfl (xC_build _ _) ?_)|(apply OKx_gs; refine OKx_stBA (by kernel_rfl) (cs' := (xC false (fun _ => false) (k : Int) ((k + 1 : Nat) : Int)).toArray) 0 rfl rfl (List.all_eq_true.2 (xC_one _ _ _ _)) rfl (by rw [List.toList_toArray, xC_len] <;> kernel_rfl) (by rw [List.toList_toArray, xC_len] <;> rfl) rfl ?_)|(apply OKx_gc 129;exact rfl; refine OKx_callV (f := 129) (v := .bool true) rfl rfl rfl (fun w1 hp => by have := plain_sat (p.getD k 0) w1; rwa [hpl] at this) ?_)|(apply OKx_gi; refine OKx_idxA (i := (p.getD k 0).toNat) Tryz.underlying145 rfl rfl hlt ?_)|(apply OKx_gs; refine OKx_stBg (k := 1 + (p.getD k 0).toNat) (cs := xC false (fun _ => false) (k : Int) ((k + 1 : Nat) : Int)) 0 rfl rfl rfl rfl rfl (by rw [xC_len];omega) hset rfl ?_)|(apply OKx_gl; refine OKx_ldBA (cs := (xC false (fun b => decide (b = p.getD k 0)) (k : Int) ((k + 1 : Nat) : Int))) 0 rfl rfl (xC_len _ _ _ _) ?_)|(apply OKx_gt; refine OKx_slit1A (cs := (xC false (fun b => decide (b = p.getD k 0)) (k : Int) ((k + 1 : Nat) : Int))) rfl (by rw [xC_len] <;> rfl) rfl ?_; intro gl)|(apply OKx_gb; refine OKx_appEl (ys := (xC false (fun b => decide (b = p.getD k 0)) (k : Int) ((k + 1 : Nat) : Int))) 2 0 rfl rfl rfl rfl (xC_len _ _ _ _) (xC_one _ _ _ _) (by omega) (by omega) ?_; intro gr cr)|(apply OKx_gl; refine OKx_ldB (k := 258) (e := 147) (cs := (xC false (fun b => decide (b = p.getD k 0)) (k : Int) ((k + 1 : Nat) : Int))) 1 rfl rfl (xC_at258 _ _ _ _) ?_)|(apply OKx_nilK)|(apply OK_block)|(apply blockQ_n)|(apply OK_condT;exact rfl)|(apply OK_condF;exact rfl)|(apply OK_skip)|(apply OKx_move;(conv=>lhs;whnf)<;>exact rfl)|(apply OKx_assign;(conv=>lhs;whnf)<;>exact rfl)|(apply OKx_lenS;exact rfl)|(apply OKx_lss;exact rfl;exact rfl;all_goals (intro _; try (exfalso;omega)))|(apply OKx_eql;exact rfl;exact rfl;all_goals (intro _; try (exfalso;omega)))|(apply OKx_fldO;exact rfl;exact rfl)|(apply OKx_inc;exact rfl;exact rfl;omega)|(apply OKx_notT;exact rfl)|(apply OKx_allocA;intro _))
      refine ⟨by (repeat' (first | refine agree_upd rfl ?_ | exact agree_over | exact agree_refl _ _ | refine agree_over2 rfl ?_)), p.length - (k + elLen (p.drop k)), _, by omega, Ent.pick [2] rfl, ?_⟩
      exact ⟨k + elLen (p.drop k), _, _, rfl, by rw [e1] <;> rfl, hnx.1, rfl, by rw [← hnx.2.1, e1, e2, e3, List.length_append] <;> rfl⟩
  · obtain rfl : k = p.length := by omega
    rw [List.drop_length, prts_nil, List.append_nil] at hpr
    rw [List.drop_length, errP_nil] at herr
    repeat' (first|(apply OK_seq)|(apply thenQ_n)|(apply OK_region)|(apply OKx_nilK)|(apply blockQ_s)|(apply thenQ_e)|(apply OK_condF;exact rfl)|(apply OK_exit)|(apply OK_ret)|(apply OKx_move;(conv=>lhs;whnf)<;>exact rfl)|(apply OKx_assign;(conv=>lhs;whnf)<;>exact rfl)|(apply OKx_lenS;exact rfl)|(apply OKx_lss;exact rfl;exact rfl;all_goals (intro _; try (exfalso;omega))))
    refine bodyQ_r2 (by ((conv=>lhs;whnf)<;>exact rfl)) (by ((conv=>lhs;whnf)<;>exact rfl)) ?_
    exact ⟨_, Ent.refl _ _, .inr ⟨by rw [hpe, herr], _, rfl, by rw [hpr] <;> rfl⟩⟩
end Go.Proofs.YthnlnffmmioapaaGreatDoor
namespace Go.Proofs.YthnlnffmmioapaaGreatDoor
open Go.RowKit
theorem prts_len (p : List UInt8) : (prts p).length ≤ p.length := by
  have : ∀ (f : Nat) (p : List UInt8), (prtsF f p).length ≤ f := by
    intro f
    induction f with
    | zero => intro p; exact Nat.le_refl _
    | succ f ih =>
      intro p
      unfold prtsF
      split
      · exact Nat.zero_le _
      · rw [List.length_cons]
        exact Nat.succ_le_succ (ih _)
  exact this _ _
theorem pat_len (p : List UInt8) : (pat p).length ≤ p.length := by unfold pat; rw [List.length_map]; exact prts_len p
theorem elsC_at : ∀ (xs : List (List UInt8)) (lo i : Nat) (x : List UInt8), xs[i]? = some x → ∀ c, c < 259 → (elsC lo xs)[i * 259 + c]? = (xC (elAny x) (elHas x) ((lo + (xs.take i).flatten.length : Nat) : Int) ((lo + (xs.take i).flatten.length + x.length : Nat) : Int))[c]?
  | [], _, i, _, h, _, _ => by simp at h
  | y :: xs, lo, 0, x, h, c, hc => by
    rw [List.getElem?_cons_zero] at h
    cases h
    rw [elsC_cons, Nat.zero_mul, Nat.zero_add, List.getElem?_append_left (by rw [xC_len]; exact hc)]
    rfl
  | y :: xs, lo, i + 1, x, h, c, hc => by
    rw [List.getElem?_cons_succ] at h
    rw [elsC_cons, Nat.succ_mul, List.getElem?_append_right (by rw [xC_len];omega), xC_len, show i * 259 + 259 + c - 259 = i * 259 + c by omega, elsC_at xs _ i x h c hc, List.take_succ_cons, List.flatten_cons, List.length_append, Nat.add_assoc lo]
def elsF (xs : List (List UInt8)) (j : Nat) : Value := (elsC 0 xs).getD j undef
theorem Hp.esR {B : Nat} {w0 w : World} {L : List Res} (h : Hp B w0 w L) (i : Nat) {e : TypeId} {v : Value} {xs : List (List UInt8)} (hi : L[i]? = some (.row e 259 v xs.length (elsC 0 xs))) (hn : xs.length ≤ 64) : EsR w v (xs.map elCor) := by
  refine ⟨elsF xs, ?_, ?_⟩
  · rw [List.length_map]
    refine h.sl i hi (by omega) fun j hj => ?_
    unfold elsF
    have : j < (elsC 0 xs).length := by rw [elsC_len]; exact hj
    rw [List.getD_eq_getElem?_getD, List.getElem?_eq_getElem this]
    rfl
  · intro k x hx
    rw [List.getElem?_map, Option.map_eq_some_iff] at hx
    obtain ⟨y, hy, rfl⟩ := hx
    constructor
    · unfold elsF
      rw [List.getD_eq_getElem?_getD, elsC_at xs 0 k y hy 0 (by decide), xC_at0]
      unfold elCor
      cases elAny y <;> rfl
    · intro g hg c hc
      unfold elsF
      rw [List.getD_eq_getElem?_getD, elsC_at xs 0 k y hy (1 + c) (by omega), xC_atc _ _ _ _ c hc]
      unfold elCor at hg
      split at hg
      · cases hg
      · cases hg
        rfl
def elsRes (v : Value) (p : List UInt8) : Res := .row 147 259 v (prts p).length (elsC 0 (prts p))
theorem elements_bad (p : List UInt8) (w : World) (hp : p.length ≤ 140737488355328) (h : patE p ≠ 0) : SatV Tryz.prog 122 [.string (bOf p)] w (.tuple #[.slice none 0 0, .int .i64 (patE p)]) :=
  (elements_sat p w hp).mono (by
    rintro u L (⟨_, rfl, rfl⟩ | ⟨h1, _⟩)
    · exact ⟨rfl, rfl⟩
    · exact absurd h1 h)
theorem elements_ok (p : List UInt8) (w : World) (hp : p.length ≤ 140737488355328) (h : patE p = 0) : Sat Tryz.prog 122 [.string (bOf p)] w (fun u L => ∃ v, u = .tuple #[v, .int .i64 0] ∧ L = [elsRes v p]) :=
  (elements_sat p w hp).mono (by
    rintro u L (⟨h1, _⟩ | ⟨_, v, rfl, rfl⟩)
    · exact absurd h h1
    · exact ⟨v, rfl, rfl⟩)
theorem patE_len {p : List UInt8} (h : patE p = 0) : p.length ≤ 64 ∧ errP p = 0 := by
  unfold patE at h
  split at h
  · cases h
  · exact ⟨by omega, h⟩
theorem Hp.elsR {B : Nat} {w0 w : World} {L : List Res} (h : Hp B w0 w L) (i : Nat) {v : Value} {p : List UInt8} (hi : L[i]? = some (elsRes v p)) (hp : patE p = 0) : EsR w v (pat p) :=
  h.esR i hi (Nat.le_trans (prts_len p) (patE_len hp).1)
theorem patE_bd (p : List UInt8) : -9223372036854775808 ≤ patE p ∧ patE p ≤ 9223372036854775807 := by
  have hel : ∀ q, 0 ≤ elErr q ∧ elErr q ≤ 11 := by
    intro q
    unfold elErr
    split
    · decide
    · repeat' split
      all_goals decide
  have : ∀ (f : Nat) (q : List UInt8), 0 ≤ errF f q ∧ errF f q ≤ 11 := by
    intro f
    induction f with
    | zero => intro q; exact (⟨Int.le_refl 0, by decide⟩ : (0 : Int) ≤ 0 ∧ (0 : Int) ≤ 11)
    | succ f ih =>
      intro q
      unfold errF
      split
      · decide
      · split
        · exact hel q
        · exact ih _
  have := this p.length p
  unfold patE errP
  split
  · decide
  · omega
set_option maxRecDepth 100000 in
set_option maxHeartbeats 4000000 in
theorem gCheck_sat (p : List UInt8) (w : World) (hp : p.length ≤ 140737488355328) : SatV Tryz.prog 105 [.string (bOf p)] w (.int .i64 (patE p)) := by
  by_cases h : patE p = 0
  · rw [h]
    refine SatL.of 11 [2] Tryz.func105 (by kernel_rfl) (by kernel_rfl) rfl rfl rfl rfl ?_
    repeat' (first|(apply OK_seq)|(apply thenQ_n)|(apply OK_region)|(apply OKx_gc 122;exact rfl; refine OKx_call (f := 122) rfl rfl (fun w1 hp1 => elements_ok p w1 hp h) ?_; rintro _ _ ⟨v, rfl, rfl⟩)|(apply OKx_nilK)|(apply OK_ret)|(apply OKx_move;(conv=>lhs;whnf)<;>exact rfl)|(apply OKx_assign;(conv=>lhs;whnf)<;>exact rfl)|(apply OKx_extract;exact rfl;(conv=>lhs;whnf)<;>exact rfl))
    refine bodyQ_r1 (by ((conv=>lhs;whnf)<;>exact rfl)) ?_
    exact ⟨_, Ent.nil, rfl, rfl⟩
  · refine SatL.of 11 [2] Tryz.func105 (by kernel_rfl) (by kernel_rfl) rfl rfl rfl rfl ?_
    repeat' (first|(apply OK_seq)|(apply thenQ_n)|(apply OK_region)|(apply OKx_gc 122;exact rfl; refine OKx_callV (f := 122) rfl rfl rfl (fun w1 hp1 => elements_bad p w1 hp h) ?_)|(apply OKx_nilK)|(apply OK_ret)|(apply OKx_move;(conv=>lhs;whnf)<;>exact rfl)|(apply OKx_assign;(conv=>lhs;whnf)<;>exact rfl)|(apply OKx_extract;exact rfl;(conv=>lhs;whnf)<;>exact rfl))
    refine bodyQ_r1 (by ((conv=>lhs;whnf)<;>exact rfl)) ?_
    exact ⟨_, Ent.nil, rfl, rfl⟩
def mtcE (p s : List UInt8) : Int := if patE p ≠ 0 then 1 else chkS s
def mtcB (p s : List UInt8) : Bool := if mtcE p s ≠ 0 then false else mtB (pat p) s
theorem chkS_bd (s : List UInt8) : chkS s = 0 ∨ chkS s = 4 ∨ chkS s = 11 := by
  unfold chkS
  split
  · exact .inr (.inl rfl)
  · split
    · exact .inr (.inr rfl)
    · exact .inl rfl
set_option maxRecDepth 100000 in
set_option maxHeartbeats 4000000 in
theorem Match_sat (p s : List UInt8) (w : World) (hp : p.length ≤ 140737488355328) (hs : s.length ≤ 140737488355328) : SatV Tryz.prog 183 [.string (bOf p), .string (bOf s)] w (.tuple #[.bool (mtcB p s), .int .i64 (mtcE p s)]) := by
  by_cases h : patE p = 0
  · have e1 : mtcE p s = chkS s := if_neg (fun hh => hh h)
    have hl := (patE_len h).1
    have hpl := pat_len p
    by_cases h2 : chkS s = 0
    · have e2 : mtcB p s = mtB (pat p) s := if_neg (fun hh => hh (by rw [e1, h2]))
      rw [e1, e2, h2]
      refine SatL.of 24 [4, 5] Tryz.func183 (by kernel_rfl) (by kernel_rfl) rfl rfl rfl rfl ?_
      repeat' (first|(apply OK_seq)|(apply thenQ_n)|(apply OK_region)|(apply OKx_gc 122;exact rfl; refine OKx_call (f := 122) rfl rfl (fun w1 hp1 => elements_ok p w1 hp h) ?_; rintro _ _ ⟨v, rfl, rfl⟩)|(apply OKx_gc 192;exact rfl; refine OKx_callV (f := 192) (v := .int .i64 0) rfl rfl rfl (fun w1 hp1 => by have := chkS_sat s w1 hs; rwa [h2] at this) ?_)|(apply OKx_gc 193;exact rfl; refine OKx_callV (f := 193) rfl rfl rfl (fun w1 hp1 => matches_sat v (pat p) s w1 (hp1.elsR 0 rfl h) (by omega) hs) ?_)|(apply OKx_nilK)|(apply OK_condF;exact rfl)|(apply OK_skip)|(apply OK_ret)|(apply OKx_move;(conv=>lhs;whnf)<;>exact rfl)|(apply OKx_assign;(conv=>lhs;whnf)<;>exact rfl)|(apply OKx_neq;exact rfl;exact rfl;all_goals (intro _; try (exfalso;omega)))|(apply OKx_extract;exact rfl;(conv=>lhs;whnf)<;>exact rfl))
      refine bodyQ_r2 (by ((conv=>lhs;whnf)<;>exact rfl)) (by ((conv=>lhs;whnf)<;>exact rfl)) ?_
      exact ⟨_, Ent.nil, rfl, rfl⟩
    · have e2 : mtcB p s = false := if_pos (by rw [e1]; exact h2)
      rw [e1, e2]
      refine SatL.of 24 [4, 5] Tryz.func183 (by kernel_rfl) (by kernel_rfl) rfl rfl rfl rfl ?_
      repeat' (first|(apply OK_seq)|(apply thenQ_n)|(apply OK_region)|(apply OKx_gc 122;exact rfl; refine OKx_call (f := 122) rfl rfl (fun w1 hp1 => elements_ok p w1 hp h) ?_; rintro _ _ ⟨v, rfl, rfl⟩)|(apply OKx_gc 192;exact rfl; refine OKx_callV (f := 192) rfl rfl rfl (fun w1 hp1 => chkS_sat s w1 hs) ?_)|(apply OKx_nilK)|(apply thenQ_r)|(apply OK_condT;exact rfl)|(apply OK_condF;exact rfl)|(apply OK_skip)|(apply OK_ret)|(apply OKx_move;(conv=>lhs;whnf)<;>exact rfl)|(apply OKx_assign;(conv=>lhs;whnf)<;>exact rfl)|(apply OKx_neq;exact rfl;exact rfl;all_goals (intro _; try (exfalso;omega)))|(apply OKx_extract;exact rfl;(conv=>lhs;whnf)<;>exact rfl))
      refine bodyQ_r2 (by ((conv=>lhs;whnf)<;>exact rfl)) (by ((conv=>lhs;whnf)<;>exact rfl)) ?_
      exact ⟨_, Ent.nil, rfl, rfl⟩
  · have e1 : mtcE p s = 1 := if_pos h
    have e2 : mtcB p s = false := if_pos (by rw [e1]; decide)
    rw [e1, e2]
    refine SatL.of 24 [4, 5] Tryz.func183 (by kernel_rfl) (by kernel_rfl) rfl rfl rfl rfl ?_
    repeat' (first|(apply OK_seq)|(apply thenQ_n)|(apply OK_region)|(apply OKx_gc 122;exact rfl; refine OKx_callV (f := 122) rfl rfl rfl (fun w1 hp1 => elements_bad p w1 hp h) ?_)|(apply OKx_nilK)|(apply thenQ_r)|(apply OK_condT;exact rfl)|(apply OK_ret)|(apply OKx_move;(conv=>lhs;whnf)<;>exact rfl)|(apply OKx_assign;(conv=>lhs;whnf)<;>exact rfl)|(apply OKx_neq;exact rfl;exact rfl;all_goals (intro _; try (exfalso;omega)))|(apply OKx_extract;exact rfl;(conv=>lhs;whnf)<;>exact rfl))
    refine bodyQ_r2 (by ((conv=>lhs;whnf)<;>exact rfl)) (by ((conv=>lhs;whnf)<;>exact rfl)) ?_
    exact ⟨_, Ent.nil, rfl, rfl⟩
end Go.Proofs.YthnlnffmmioapaaGreatDoor
namespace Go.Proofs.YthnlnffmmioapaaGreatDoor
open Go.RowKit Go.Maps
def MxL (w : World) : Prop := ∃ m, w.cell? ⟨2, 0, none⟩ = some (.int .i64 m)
theorem MxL.below {w w' : World} (h : MxL w) (hb : Below w.heap.size w w') : MxL w' := by
  obtain ⟨m, hm⟩ := h
  refine ⟨m, ?_⟩
  rw [← hm]
  have hlt : 2 < w.heap.size := by
    unfold World.cell? at hm
    cases h : w.heap[2]? with
    | none => simp [h] at hm
    | some o => exact (Array.getElem?_eq_some_iff.1 h).1
  unfold World.cell?
  rw [hb.block _ hlt]
theorem TKeyS : Keyed Tryz.prog 9 := string_keyed Tryz.underlying9
def litS (s : ByteArray) : Lit := .string s.data.toList
theorem keyS (s : ByteArray) (h : s.size ≤ 140737488355328) : keyOf Tryz.prog 9 (.string s) = some (litS s) := WideMaps.keyOf_string_mk Tryz.underlying9 (by unfold maxLen;omega)
theorem litS_key (s : ByteArray) : WideAt.IsKeyLit (litS s) := trivial
theorem putF_str (F : Lit → Option Value) (a b : ByteArray) (v : Value) : putF F (litS a) v (litS b) = if a = b then some v else F (litS b) := by
  unfold putF
  by_cases h : a = b
  · subst h
    rw [if_pos (WideAt.sameKey_self (litS_key a)), if_pos rfl]
  · rw [if_neg h, if_neg]
    intro e
    unfold litS at e
    simp only [Lit.sameKey, beq_iff_eq] at e
    apply h
    rw [← bOf_data a, ← bOf_data b, e]
end Go.Proofs.YthnlnffmmioapaaGreatDoor
