/-
  Part 20 of the proof: Cm33. No statement of the seat is proved here.
-/
import Derived.Test.YtpknpbeiifjmgaaGreatMHPs3319
namespace Go.Proofs.YtpknpbeiifjmgaaGreat
open Go.RowKit
set_option maxRecDepth 100000 in
set_option maxHeartbeats 4000000 in
theorem bs_sat (v : Value) (xs : List Int) (x : Int) (w : World) (h : Ints w v xs) (hs : xs.Pairwise (· < ·)) (hl : xs.length ≤ 1000000) : SatV Tryz.prog 77 [v, .int .i64 x] w (.tuple #[.int .i64 ((xs.countP (fun y => decide (y < x)) : Nat) : Int), .bool (hasI xs x)]) :=
  Sat.lib ⟨_, _, Tryz.func77, by kernel_rfl, rfl⟩ fun w1 hb => by
    have h1 := (h.below hb).sl
    obtain ⟨a, c, rfl, hc⟩ := h1.out
    rcases hc with h0 | ⟨b, off, rfl, hc⟩
    · obtain rfl : xs = [] := List.length_eq_zero_iff.1 h0
      refine (Tryz.slices_BinarySearch_int_empty a c x w1).mono ?_
      rintro e w' ⟨rfl, rfl⟩
      exact ⟨_, [], rfl, Hp.refl _, rfl, rfl⟩
    · have h2 := Tryz.slices_BinarySearch_int b off xs.length c xs x w1 (Nat.le_refl _) (by omega) (fun j hj => by have := hc j (by omega); exact this) (by rw [List.take_length]; exact hs.imp (fun h => by omega))
      refine h2.mono ?_
      rintro e w' ⟨rfl, q, rfl⟩
      rw [List.take_length]
      exact ⟨_, [], rfl, (Hp.refl w1).drewN q, rfl, rfl⟩
set_option maxRecDepth 100000 in
set_option maxHeartbeats 4000000 in
theorem has_sat (a : Option Addr) (n c : Nat) (w : World) : Sat Tryz.prog 54 [.slice a n c] w (fun u L => ∃ g, u = .func (.func 76) #[] #[.pointer (some ⟨g, 0, none⟩)] ∧ L = [.box 22 g [.slice a n c]]) := by
  refine SatL.of 4 [2] Tryz.func54 (by kernel_rfl) (by kernel_rfl) rfl rfl rfl rfl ?_
  repeat' (first|(apply OK_seq)|(apply thenQ_n)|(apply OK_region)|(apply OKx_nilK)|(apply OK_block)|(apply blockQ_n)|(apply blockQ_s)|(apply thenQ_e)|(apply blockQ_e;exact rfl)|(apply thenQ_r)|(apply blockQ_r)|(apply OK_condT;exact rfl)|(apply OK_condF;exact rfl)|(apply OK_skip)|(apply OK_exit)|(apply OK_ret)|(apply OKx_assign;(conv=>lhs;whnf)<;>exact rfl)|(apply OKx_box1;(conv=>lhs;whnf)<;>exact rfl;exact rfl;intro _)|(apply OKx_func;exact rfl;exact rfl))
  rename_i g
  refine bodyQ_r1 (by ((conv=>lhs;whnf)<;>exact rfl)) ?_
  exact ⟨_, Ent.refl _ _, g, rfl, rfl⟩
set_option maxRecDepth 100000 in
set_option maxHeartbeats 4000000 in
theorem has1_sat (pl sv : Value) (xs : List Int) (x : Int) (w : World) (hp1 : Pt1 w pl sv) (h : Ints w sv xs) (hs : xs.Pairwise (· < ·)) (hl : xs.length ≤ 1000000) : SatV Tryz.prog 76 [.int .i64 x, pl] w (.bool (hasI xs x)) := by
  refine SatL.of 13 [3] Tryz.func76 (by kernel_rfl) (by kernel_rfl) rfl rfl rfl rfl ?_
  repeat' (first|(apply OK_seq)|(apply thenQ_n)|(apply OK_region)|(apply OKx_gc 77;exact rfl; refine OKx_callV (f := 77) rfl rfl rfl (fun w1 hp => bs_sat _ xs x w1 (h.below hp.below) hs hl) ?_)|(apply OKx_nilK)|(apply OK_block)|(apply blockQ_n)|(apply blockQ_s)|(apply thenQ_e)|(apply blockQ_e;exact rfl)|(apply thenQ_r)|(apply blockQ_r)|(apply OK_condT;exact rfl)|(apply OK_condF;exact rfl)|(apply OK_skip)|(apply OK_exit)|(apply OK_ret)|(apply OKx_move;(conv=>lhs;whnf)<;>exact rfl)|(apply OKx_assign;(conv=>lhs;whnf)<;>exact rfl)|(apply OKx_ldB;exact rfl;(first | exact at0|exact at1|exact at2|exact at3|exact at4|exact at5|exact at6|exact at7);exact rfl)|(apply OKx_ldR;(conv=>lhs;whnf)<;>exact rfl;(with_reducible assumption))|(apply OKx_extract;exact rfl;(conv=>lhs;whnf)<;>exact rfl))
  refine bodyQ_r1 (by ((conv=>lhs;whnf)<;>exact rfl)) ?_
  exact ⟨_, Ent.nil, rfl, rfl⟩
set_option maxRecDepth 100000 in
set_option maxHeartbeats 4000000 in
theorem comp1_sat (pin pl sv : Value) (xs : List Int) (x : Int) (w : World) (hpi : Pt1 w pin (.func (.func 76) #[] #[pl])) (hp1 : Pt1 w pl sv) (h : Ints w sv xs) (hs : xs.Pairwise (· < ·)) (hl : xs.length ≤ 1000000) : SatV Tryz.prog 56 [.int .i64 x, pin] w (.bool (!hasI xs x)) := by
  refine SatL.of 8 [3] Tryz.func56 (by kernel_rfl) (by kernel_rfl) rfl rfl rfl rfl ?_
  repeat' (first|(apply OK_seq)|(apply thenQ_n)|(apply OK_region)|(apply OKx_gc 76;exact rfl; refine OKx_callB (f := 76) (b := hasI xs x) rfl rfl rfl (fun w1 hp => has1_sat pl sv xs x w1 (hp1.below hp.below) (h.below hp.below) hs hl) ?_ ?_ <;> intro hq)|(apply OKx_nilK)|(apply OK_block)|(apply blockQ_n)|(apply blockQ_s)|(apply thenQ_e)|(apply blockQ_e;exact rfl)|(apply thenQ_r)|(apply blockQ_r)|(apply OK_condT;exact rfl)|(apply OK_condF;exact rfl)|(apply OK_skip)|(apply OK_exit)|(apply OK_ret)|(apply OKx_move;(conv=>lhs;whnf)<;>exact rfl)|(apply OKx_assign;(conv=>lhs;whnf)<;>exact rfl)|(apply OKx_ldB;exact rfl;(first | exact at0|exact at1|exact at2|exact at3|exact at4|exact at5|exact at6|exact at7);exact rfl)|(apply OKx_ldR;(conv=>lhs;whnf)<;>exact rfl;(with_reducible assumption))|(apply OKx_notT;exact rfl)|(apply OKx_notF;exact rfl))
  all_goals
    refine bodyQ_r1 (by ((conv=>lhs;whnf)<;>exact rfl)) ?_
    rw [hq]
    exact ⟨_, Ent.nil, rfl, rfl⟩
def cmpL (xs : List Int) (k : Nat) : List Int := ((List.range k).filter fun p : Nat => !hasI xs (p : Int)).map fun p : Nat => (p : Int)
theorem cmpL_step (xs : List Int) (k : Nat) : cmpL xs (k + 1) = cmpL xs k ++ if hasI xs (k : Int) = true then [] else [(k : Int)] := by
  unfold cmpL
  rw [List.range_succ, List.filter_append, List.map_append]
  cases h : hasI xs (k : Int) <;> simp [h]
theorem cmpL_pre (xs : List Int) (k : Nat) : ∀ m, cmpL xs k <+: cmpL xs (k + m)
  | 0 => List.prefix_refl _
  | m + 1 => (cmpL_pre xs k m).trans (by rw [← Nat.add_assoc, cmpL_step xs (k + m)]; exact List.prefix_append _ _)
theorem cmpL_len (xs : List Int) (k : Nat) : (cmpL xs k).length ≤ k := by
  unfold cmpL
  rw [List.length_map]
  have := List.length_filter_le (fun p : Nat => !hasI xs (p : Int)) (List.range k)
  rwa [List.length_range] at this
set_option maxRecDepth 100000 in
set_option maxHeartbeats 4000000 in
theorem members_sat (n : Int) (f : FuncId) (cs : Array Value) (w : World) : Sat Tryz.prog 55 [.int .i64 n, .func (.func f) #[] cs] w (fun u L => ∃ gn gi, u = .func (.func 78) #[] #[.pointer (some ⟨gn, 0, none⟩), .pointer (some ⟨gi, 0, none⟩)] ∧ L = [.box 54 gi [.func (.func f) #[] cs], .box 3 gn [.int .i64 n]]) := by
  refine SatL.of 6 [4] Tryz.func55 (by kernel_rfl) (by kernel_rfl) rfl rfl rfl rfl ?_
  repeat' (first|(apply OK_seq)|(apply thenQ_n)|(apply OK_region)|(apply OKx_nilK)|(apply OK_block)|(apply blockQ_n)|(apply blockQ_s)|(apply thenQ_e)|(apply blockQ_e;exact rfl)|(apply thenQ_r)|(apply blockQ_r)|(apply OK_condT;exact rfl)|(apply OK_condF;exact rfl)|(apply OK_skip)|(apply OK_exit)|(apply OK_ret)|(apply OKx_assign;(conv=>lhs;whnf)<;>exact rfl)|(apply OKx_box1;(conv=>lhs;whnf)<;>exact rfl;exact rfl;intro _)|(apply OKx_func;exact rfl;exact rfl))
  rename_i gn gi
  refine bodyQ_r1 (by ((conv=>lhs;whnf)<;>exact rfl)) ?_
  exact ⟨_, Ent.refl _ _, gn, gi, rfl, rfl⟩
def cmZ (gn gi gin gl n : Nat) (sv : Value) : List Res := [.box 54 gi [.func (.func 56) #[] #[.pointer (some ⟨gin, 0, none⟩)]], .box 3 gn [.int .i64 (n : Int)], .box 54 gin [.func (.func 76) #[] #[.pointer (some ⟨gl, 0, none⟩)]], .box 22 gl [sv]]
set_option maxRecDepth 100000 in
set_option maxHeartbeats 2000000 in
theorem members1 {w0 : World} {gn gi gin gl n : Nat} {sv : Value} {xs : List Int} (h : Ints w0 sv xs) (hs : xs.Pairwise (· < ·)) (hl : xs.length ≤ 1000000) (hn : n ≤ 1000000) : IterI w0 78 [.pointer (some ⟨gn, 0, none⟩), .pointer (some ⟨gi, 0, none⟩)] (cmZ gn gi gin gl n sv) (cmpL xs n) := by
  intro y Br JP hy J hJ
  generalize hR : (fun (_ : Value) (L : List Res) => ∃ J', JP (cmpL xs n) J' ∧ L = cmZ gn gi gin gl n sv ++ (J' ++ Br)) = R
  simp only [cmZ, List.cons_append, List.nil_append]
  refine SatL.of 19 [] Tryz.func78 (by kernel_rfl) (by kernel_rfl) rfl rfl rfl rfl ?_
  repeat' (first|(apply OK_seq)|(apply thenQ_n)|(apply OK_region)|(apply OKx_nilK)|(apply OK_block)|(apply blockQ_n)|(apply blockQ_s)|(apply thenQ_e)|(apply blockQ_e;exact rfl)|(apply thenQ_r)|(apply blockQ_r)|(apply OK_condT;exact rfl)|(apply OK_condF;exact rfl)|(apply OK_skip)|(apply OK_exit)|(apply OK_ret)|(apply OKx_move;(conv=>lhs;whnf)<;>exact rfl)|(apply OKx_assign;(conv=>lhs;whnf)<;>exact rfl)|(apply OKx_ldB;exact rfl;(first | exact at0|exact at1|exact at2|exact at3|exact at4|exact at5|exact at6|exact at7);exact rfl)|(apply OKx_ldR;(conv=>lhs;whnf)<;>exact rfl;(with_reducible assumption))|(apply OKx_ldI;exact rfl;(first | exact at0|exact at1|exact at2|exact at3|exact at4|exact at5|exact at6|exact at7);omega)|(apply OKx_lss;exact rfl;exact rfl;all_goals (intro _; try (exfalso;omega)))|(apply OKx_inc;exact rfl;exact rfl;omega)|(apply OKx_addN;exact rfl;exact rfl;omega)|(apply OKx_add;exact rfl;exact rfl;omega;omega)|(apply OKx_pickT;exact rfl;(conv=>lhs;whnf)<;>exact rfl)|(apply OKx_pickF;exact rfl;(conv=>lhs;whnf)<;>exact rfl)|(apply OKx_guardT;exact rfl;exact rfl)|(apply OKx_guardF;exact rfl;exact rfl)|(apply OKx_guardU;exact rfl;exact rfl)|(apply OKx_notT;exact rfl)|(apply OKx_notF;exact rfl))
  refine OK_loop1 6 [4, 6, 7, 8, 9, 10, 11, 12, 13, 14, 15, 16, 17, 18] (fun m v L => ∃ (k : Nat) (J' : List Res), k + m = n ∧ v = .int .i64 (k : Int) ∧ JP (cmpL xs k) J' ∧ L = cmZ gn gi gin gl n sv ++ (J' ++ Br)) n _ (Ent.refl _ _) ⟨0, J, by omega, rfl, hJ, rfl⟩ ?_
  rintro m v L G ⟨k, J', hm, rfl, hJ', rfl⟩
  have hst := cmpL_step xs k
  have hcall : ∀ w1, Hp w0.heap.size w0 w1 (cmZ gn gi gin gl n sv ++ (J' ++ Br)) → SatV Tryz.prog 56 [.int .i64 (k : Int), .pointer (some ⟨gin, 0, none⟩)] w1 (.bool (!hasI xs (k : Int))) := fun w1 hp =>
    comp1_sat _ (.pointer (some ⟨gl, 0, none⟩)) sv xs k w1 ⟨_, _, rfl, (hp.boxAt 2 rfl).1 0⟩ ⟨_, _, rfl, (hp.boxAt 3 rfl).1 0⟩ (h.below hp.below) hs hl
  by_cases hk : k < n
  · cases hh : hasI xs (k : Int) with
    | true =>
      rw [hh] at hcall
      rw [if_pos hh, List.append_nil] at hst
      simp only [cmZ, List.cons_append, List.nil_append] at hcall ⊢
      repeat' (first|(apply OK_seq)|(apply thenQ_n)|(apply OK_region)|(apply OKx_gc 56;exact rfl; refine OKx_callV (f := 56) (v := .bool false) rfl rfl rfl (fun w1 hp => hcall w1 hp) ?_)|(apply OKx_nilK)|(apply OK_block)|(apply blockQ_n)|(apply blockQ_s)|(apply thenQ_e)|(apply blockQ_e;exact rfl)|(apply thenQ_r)|(apply blockQ_r)|(apply OK_condT;exact rfl)|(apply OK_condF;exact rfl)|(apply OK_skip)|(apply OK_exit)|(apply OK_ret)|(apply OKx_move;(conv=>lhs;whnf)<;>exact rfl)|(apply OKx_assign;(conv=>lhs;whnf)<;>exact rfl)|(apply OKx_ldB;exact rfl;(first | exact at0|exact at1|exact at2|exact at3|exact at4|exact at5|exact at6|exact at7);exact rfl)|(apply OKx_ldR;(conv=>lhs;whnf)<;>exact rfl;(with_reducible assumption))|(apply OKx_ldI;exact rfl;(first | exact at0|exact at1|exact at2|exact at3|exact at4|exact at5|exact at6|exact at7);omega)|(apply OKx_lss;exact rfl;exact rfl;all_goals (intro _; try (exfalso;omega)))|(apply OKx_inc;exact rfl;exact rfl;omega)|(apply OKx_addN;exact rfl;exact rfl;omega)|(apply OKx_add;exact rfl;exact rfl;omega;omega)|(apply OKx_pickT;exact rfl;(conv=>lhs;whnf)<;>exact rfl)|(apply OKx_pickF;exact rfl;(conv=>lhs;whnf)<;>exact rfl)|(apply OKx_guardT;exact rfl;exact rfl)|(apply OKx_guardF;exact rfl;exact rfl)|(apply OKx_guardU;exact rfl;exact rfl)|(apply OKx_notT;exact rfl)|(apply OKx_notF;exact rfl))
      refine ⟨by (repeat' (first | refine agree_upd rfl ?_ | exact agree_over | exact agree_refl _ _ | refine agree_over2 rfl ?_)), m - 1, _, by omega, Ent.refl _ _, ?_⟩
      exact ⟨k + 1, J', by omega, rfl, by rw [hst]; exact hJ', rfl⟩
    | false =>
      rw [hh] at hcall
      rw [if_neg (by rw [hh]; simp)] at hst
      have hyy := hy _ (k : Int) J' hJ' (by
        rw [← hst]
        have := cmpL_pre xs (k + 1) (n - (k + 1))
        rwa [show k + 1 + (n - (k + 1)) = n by omega] at this)
      simp only [cmZ, List.cons_append, List.nil_append] at hcall ⊢
      repeat' (first|(refine OK_regionYg (id := 3) [_, _, _, _, _, _] [_, _] rfl rfl rfl ?_)|(apply OK_seq)|(apply thenQ_n)|(apply OK_region)|(apply OKx_gc 56;exact rfl; refine OKx_callV (f := 56) (v := .bool true) rfl rfl rfl (fun w1 hp => hcall w1 hp) ?_)|(apply OKx_nilK)|(apply OK_block)|(apply blockQ_n)|(apply blockQ_s)|(apply thenQ_e)|(apply blockQ_e;exact rfl)|(apply thenQ_r)|(apply blockQ_r)|(apply OK_condT;exact rfl)|(apply OK_condF;exact rfl)|(apply OK_skip)|(apply OK_exit)|(apply OK_ret)|(apply OKx_move;(conv=>lhs;whnf)<;>exact rfl)|(apply OKx_assign;(conv=>lhs;whnf)<;>exact rfl)|(apply OKx_ldB;exact rfl;(first | exact at0|exact at1|exact at2|exact at3|exact at4|exact at5|exact at6|exact at7);exact rfl)|(apply OKx_ldR;(conv=>lhs;whnf)<;>exact rfl;(with_reducible assumption))|(apply OKx_ldI;exact rfl;(first | exact at0|exact at1|exact at2|exact at3|exact at4|exact at5|exact at6|exact at7);omega)|(apply OKx_lss;exact rfl;exact rfl;all_goals (intro _; try (exfalso;omega)))|(apply OKx_inc;exact rfl;exact rfl;omega)|(apply OKx_addN;exact rfl;exact rfl;omega)|(apply OKx_add;exact rfl;exact rfl;omega;omega)|(apply OKx_pickT;exact rfl;(conv=>lhs;whnf)<;>exact rfl)|(apply OKx_pickF;exact rfl;(conv=>lhs;whnf)<;>exact rfl)|(apply OKx_guardT;exact rfl;exact rfl)|(apply OKx_guardF;exact rfl;exact rfl)|(apply OKx_guardU;exact rfl;exact rfl)|(apply OKx_notT;exact rfl)|(apply OKx_notF;exact rfl))
      refine ⟨(by ((conv=>lhs;whnf)<;>exact rfl)), y, [_], _, (by ((conv=>lhs;whnf)<;>exact rfl)), (by ((conv=>lhs;whnf)<;>exact rfl)), fun w hp => hyy w ((swapF J' (cmZ gn gi gin gl n sv) Br).use w hp), ?_⟩
      rintro _ _ ⟨rfl, J2, hJ2, rfl⟩
      refine OKx_ent (swapE J2 (cmZ gn gi gin gl n sv) Br) ?_
      simp only [cmZ, List.cons_append, List.nil_append]
      repeat' (first|(apply OK_seq)|(apply thenQ_n)|(apply OK_region)|(apply OKx_nilK)|(apply OK_block)|(apply blockQ_n)|(apply blockQ_s)|(apply thenQ_e)|(apply blockQ_e;exact rfl)|(apply thenQ_r)|(apply blockQ_r)|(apply OK_condT;exact rfl)|(apply OK_condF;exact rfl)|(apply OK_skip)|(apply OK_exit)|(apply OK_ret)|(apply OKx_move;(conv=>lhs;whnf)<;>exact rfl)|(apply OKx_assign;(conv=>lhs;whnf)<;>exact rfl)|(apply OKx_ldB;exact rfl;(first | exact at0|exact at1|exact at2|exact at3|exact at4|exact at5|exact at6|exact at7);exact rfl)|(apply OKx_ldR;(conv=>lhs;whnf)<;>exact rfl;(with_reducible assumption))|(apply OKx_ldI;exact rfl;(first | exact at0|exact at1|exact at2|exact at3|exact at4|exact at5|exact at6|exact at7);omega)|(apply OKx_lss;exact rfl;exact rfl;all_goals (intro _; try (exfalso;omega)))|(apply OKx_inc;exact rfl;exact rfl;omega)|(apply OKx_addN;exact rfl;exact rfl;omega)|(apply OKx_add;exact rfl;exact rfl;omega;omega)|(apply OKx_pickT;exact rfl;(conv=>lhs;whnf)<;>exact rfl)|(apply OKx_pickF;exact rfl;(conv=>lhs;whnf)<;>exact rfl)|(apply OKx_guardT;exact rfl;exact rfl)|(apply OKx_guardF;exact rfl;exact rfl)|(apply OKx_guardU;exact rfl;exact rfl)|(apply OKx_notT;exact rfl)|(apply OKx_notF;exact rfl))
      refine ⟨by (repeat' (first | refine agree_upd rfl ?_ | exact agree_over | exact agree_refl _ _ | refine agree_over2 rfl ?_)), m - 1, _, by omega, Ent.refl _ _, ?_⟩
      exact ⟨k + 1, J2, by omega, rfl, by rw [hst]; exact hJ2, rfl⟩
  · obtain rfl : k = n := by omega
    simp only [cmZ, List.cons_append, List.nil_append]
    repeat' (first|(apply OK_seq)|(apply thenQ_n)|(apply OK_region)|(apply OKx_nilK)|(apply OK_block)|(apply blockQ_n)|(apply blockQ_s)|(apply thenQ_e)|(apply blockQ_e;exact rfl)|(apply thenQ_r)|(apply blockQ_r)|(apply OK_condT;exact rfl)|(apply OK_condF;exact rfl)|(apply OK_skip)|(apply OK_exit)|(apply OK_ret)|(apply OKx_move;(conv=>lhs;whnf)<;>exact rfl)|(apply OKx_assign;(conv=>lhs;whnf)<;>exact rfl)|(apply OKx_ldB;exact rfl;(first | exact at0|exact at1|exact at2|exact at3|exact at4|exact at5|exact at6|exact at7);exact rfl)|(apply OKx_ldR;(conv=>lhs;whnf)<;>exact rfl;(with_reducible assumption))|(apply OKx_ldI;exact rfl;(first | exact at0|exact at1|exact at2|exact at3|exact at4|exact at5|exact at6|exact at7);omega)|(apply OKx_lss;exact rfl;exact rfl;all_goals (intro _; try (exfalso;omega)))|(apply OKx_inc;exact rfl;exact rfl;omega)|(apply OKx_addN;exact rfl;exact rfl;omega)|(apply OKx_add;exact rfl;exact rfl;omega;omega)|(apply OKx_pickT;exact rfl;(conv=>lhs;whnf)<;>exact rfl)|(apply OKx_pickF;exact rfl;(conv=>lhs;whnf)<;>exact rfl)|(apply OKx_guardT;exact rfl;exact rfl)|(apply OKx_guardF;exact rfl;exact rfl)|(apply OKx_guardU;exact rfl;exact rfl)|(apply OKx_notT;exact rfl)|(apply OKx_notF;exact rfl))
    first | refine bodyQ_r0 ?_ | refine bodyQ_n0 ?_
    subst hR
    exact ⟨_, Ent.refl _ _, J', hJ', rfl⟩
def setB (xs : List Int) : Prop := xs.Pairwise (· < ·) ∧ ∀ x ∈ xs, 0 ≤ x ∧ x ≤ 63
theorem setB.len {xs : List Int} (h : setB xs) : xs.length ≤ 64 := asc_len xs h.1 64 (fun x hx => by have := h.2 x hx;omega)
theorem asc_at {xs : List Int} (h : xs.Pairwise (· < ·)) (k : Nat) (hk : k + 1 < xs.length) : xs.getD k 0 < xs.getD (k + 1) 0 := by
  rw [getD_lt _ _ _ hk, getD_lt _ _ _ (show k < xs.length by omega)]
  exact List.pairwise_iff_getElem.1 h k (k + 1) (by omega) hk (by omega)
set_option maxRecDepth 100000 in
set_option maxHeartbeats 4000000 in
theorem iChk_sat (v : Value) (xs : List Int) (w : World) (h : Ints w v xs) (hb : setB xs) : SatV Tryz.prog 53 [v] w (.int .i64 0) := by
  have hsl := h.sl
  have hbd := hsl.bound
  have hln := hb.len
  refine SatL.of 30 [2] Tryz.func53 (by kernel_rfl) (by kernel_rfl) rfl rfl rfl rfl ?_
  repeat' (first|(apply OK_seq)|(apply thenQ_n)|(apply OK_region)|(apply OKx_nilK)|(apply OK_block)|(apply blockQ_n)|(apply blockQ_s)|(apply thenQ_e)|(apply blockQ_e;exact rfl)|(apply thenQ_r)|(apply blockQ_r)|(apply OK_condT;exact rfl)|(apply OK_condF;exact rfl)|(apply OK_skip)|(apply OK_exit)|(apply OK_ret)|(apply OKx_move;(conv=>lhs;whnf)<;>exact rfl)|(apply OKx_assign;(conv=>lhs;whnf)<;>exact rfl)|(apply OKx_ldB;exact rfl;(first | exact at0|exact at1|exact at2|exact at3|exact at4|exact at5|exact at6|exact at7);exact rfl)|(apply OKx_ldR;(conv=>lhs;whnf)<;>exact rfl;(with_reducible assumption))|(apply OKx_ldI;exact rfl;(first | exact at0|exact at1|exact at2|exact at3|exact at4|exact at5|exact at6|exact at7);omega)|(apply OKx_len;exact rfl)|(apply OKx_lenR;(conv=>lhs;whnf)<;>exact rfl;(with_reducible assumption))|(apply OKx_lenR2;(conv=>lhs;whnf)<;>exact rfl;(with_reducible assumption))|(apply OKx_lenO;(conv=>lhs;whnf)<;>exact rfl;(first | exact at0|exact at1|exact at2|exact at3|exact at4|exact at5|exact at6|exact at7))|(apply OKx_lss;exact rfl;exact rfl;all_goals (intro _; try (exfalso;omega)))|(apply OKx_leq;exact rfl;exact rfl;all_goals (intro _; try (exfalso;omega)))|(apply OKx_gtr;exact rfl;exact rfl;all_goals (intro _; try (exfalso;omega)))|(apply OKx_idxO;exact rfl;exact rfl;omega)|(apply OKx_idxR;(conv=>lhs;whnf)<;>exact rfl;(with_reducible assumption);exact rfl;omega;intro _ _)|(apply OKx_idxOz;exact rfl;exact rfl;omega;omega)|(apply OKx_idxRz;(conv=>lhs;whnf)<;>exact rfl;(with_reducible assumption);exact rfl;omega;omega;intro _ _)|(apply OKx_inc;exact rfl;exact rfl;omega)|(apply OKx_addN;exact rfl;exact rfl;omega)|(apply OKx_add;exact rfl;exact rfl;omega;omega)|(apply OKx_dec;exact rfl;exact rfl;omega;omega)|(apply OKx_subN;exact rfl;exact rfl;omega;omega)|(apply OKx_sub;exact rfl;exact rfl;omega;omega)|(apply OKx_pickT;exact rfl;(conv=>lhs;whnf)<;>exact rfl)|(apply OKx_pickF;exact rfl;(conv=>lhs;whnf)<;>exact rfl)|(apply OKx_guardT;exact rfl;exact rfl)|(apply OKx_guardF;exact rfl;exact rfl)|(apply OKx_guardU;exact rfl;exact rfl))
  refine OK_loop1 7 [2, 3, 4, 7, 8, 9, 10, 11, 12, 13, 14, 15, 16, 17, 18, 19, 20, 21, 22, 23, 24, 25, 26, 27, 28, 29] (fun m v L => ∃ k : Nat, k + m = xs.length ∧ v = .int .i64 (k : Int) ∧ L = []) xs.length _ (Ent.refl _ _) ⟨0, by omega, rfl, rfl⟩ ?_
  rintro m v L G ⟨k, hm, rfl, rfl⟩
  by_cases hk : k < xs.length
  · have h1 := hb.2 _ (getD_mem xs k 0 hk)
    by_cases hk0 : k = 0
    · subst hk0
      repeat' (first|(apply OK_seq)|(apply thenQ_n)|(apply OK_region)|(apply OKx_nilK)|(apply OK_block)|(apply blockQ_n)|(apply blockQ_s)|(apply thenQ_e)|(apply blockQ_e;exact rfl)|(apply thenQ_r)|(apply blockQ_r)|(apply OK_condT;exact rfl)|(apply OK_condF;exact rfl)|(apply OK_skip)|(apply OK_exit)|(apply OK_ret)|(apply OKx_move;(conv=>lhs;whnf)<;>exact rfl)|(apply OKx_assign;(conv=>lhs;whnf)<;>exact rfl)|(apply OKx_ldB;exact rfl;(first | exact at0|exact at1|exact at2|exact at3|exact at4|exact at5|exact at6|exact at7);exact rfl)|(apply OKx_ldR;(conv=>lhs;whnf)<;>exact rfl;(with_reducible assumption))|(apply OKx_ldI;exact rfl;(first | exact at0|exact at1|exact at2|exact at3|exact at4|exact at5|exact at6|exact at7);omega)|(apply OKx_len;exact rfl)|(apply OKx_lenR;(conv=>lhs;whnf)<;>exact rfl;(with_reducible assumption))|(apply OKx_lenR2;(conv=>lhs;whnf)<;>exact rfl;(with_reducible assumption))|(apply OKx_lenO;(conv=>lhs;whnf)<;>exact rfl;(first | exact at0|exact at1|exact at2|exact at3|exact at4|exact at5|exact at6|exact at7))|(apply OKx_lss;exact rfl;exact rfl;all_goals (intro _; try (exfalso;omega)))|(apply OKx_leq;exact rfl;exact rfl;all_goals (intro _; try (exfalso;omega)))|(apply OKx_gtr;exact rfl;exact rfl;all_goals (intro _; try (exfalso;omega)))|(apply OKx_idxO;exact rfl;exact rfl;omega)|(apply OKx_idxR;(conv=>lhs;whnf)<;>exact rfl;(with_reducible assumption);exact rfl;omega;intro _ _)|(apply OKx_idxOz;exact rfl;exact rfl;omega;omega)|(apply OKx_idxRz;(conv=>lhs;whnf)<;>exact rfl;(with_reducible assumption);exact rfl;omega;omega;intro _ _)|(apply OKx_inc;exact rfl;exact rfl;omega)|(apply OKx_addN;exact rfl;exact rfl;omega)|(apply OKx_add;exact rfl;exact rfl;omega;omega)|(apply OKx_dec;exact rfl;exact rfl;omega;omega)|(apply OKx_subN;exact rfl;exact rfl;omega;omega)|(apply OKx_sub;exact rfl;exact rfl;omega;omega)|(apply OKx_pickT;exact rfl;(conv=>lhs;whnf)<;>exact rfl)|(apply OKx_pickF;exact rfl;(conv=>lhs;whnf)<;>exact rfl)|(apply OKx_guardT;exact rfl;exact rfl)|(apply OKx_guardF;exact rfl;exact rfl)|(apply OKx_guardU;exact rfl;exact rfl))
      refine ⟨by (repeat' (first | refine agree_upd rfl ?_ | exact agree_over | exact agree_refl _ _ | refine agree_over2 rfl ?_)), m - 1, _, by omega, Ent.refl _ _, ?_⟩
      exact ⟨1, by omega, rfl, rfl⟩
    · have h2 := asc_at hb.1 (k - 1) (by omega)
      rw [show k - 1 + 1 = k by omega] at h2
      repeat' (first|(apply OK_seq)|(apply thenQ_n)|(apply OK_region)|(apply OKx_nilK)|(apply OK_block)|(apply blockQ_n)|(apply blockQ_s)|(apply thenQ_e)|(apply blockQ_e;exact rfl)|(apply thenQ_r)|(apply blockQ_r)|(apply OK_condT;exact rfl)|(apply OK_condF;exact rfl)|(apply OK_skip)|(apply OK_exit)|(apply OK_ret)|(apply OKx_move;(conv=>lhs;whnf)<;>exact rfl)|(apply OKx_assign;(conv=>lhs;whnf)<;>exact rfl)|(apply OKx_ldB;exact rfl;(first | exact at0|exact at1|exact at2|exact at3|exact at4|exact at5|exact at6|exact at7);exact rfl)|(apply OKx_ldR;(conv=>lhs;whnf)<;>exact rfl;(with_reducible assumption))|(apply OKx_ldI;exact rfl;(first | exact at0|exact at1|exact at2|exact at3|exact at4|exact at5|exact at6|exact at7);omega)|(apply OKx_len;exact rfl)|(apply OKx_lenR;(conv=>lhs;whnf)<;>exact rfl;(with_reducible assumption))|(apply OKx_lenR2;(conv=>lhs;whnf)<;>exact rfl;(with_reducible assumption))|(apply OKx_lenO;(conv=>lhs;whnf)<;>exact rfl;(first | exact at0|exact at1|exact at2|exact at3|exact at4|exact at5|exact at6|exact at7))|(apply OKx_lss;exact rfl;exact rfl;all_goals (intro _; try (exfalso;omega)))|(apply OKx_leq;exact rfl;exact rfl;all_goals (intro _; try (exfalso;omega)))|(apply OKx_gtr;exact rfl;exact rfl;all_goals (intro _; try (exfalso;omega)))|(apply OKx_idxO;exact rfl;exact rfl;omega)|(apply OKx_idxR;(conv=>lhs;whnf)<;>exact rfl;(with_reducible assumption);exact rfl;omega;intro _ _)|(apply OKx_idxOz;exact rfl;exact rfl;omega;omega)|(apply OKx_idxRz;(conv=>lhs;whnf)<;>exact rfl;(with_reducible assumption);exact rfl;omega;omega;intro _ _)|(apply OKx_inc;exact rfl;exact rfl;omega)|(apply OKx_addN;exact rfl;exact rfl;omega)|(apply OKx_add;exact rfl;exact rfl;omega;omega)|(apply OKx_dec;exact rfl;exact rfl;omega;omega)|(apply OKx_subN;exact rfl;exact rfl;omega;omega)|(apply OKx_sub;exact rfl;exact rfl;omega;omega)|(apply OKx_pickT;exact rfl;(conv=>lhs;whnf)<;>exact rfl)|(apply OKx_pickF;exact rfl;(conv=>lhs;whnf)<;>exact rfl)|(apply OKx_guardT;exact rfl;exact rfl)|(apply OKx_guardF;exact rfl;exact rfl)|(apply OKx_guardU;exact rfl;exact rfl))
      refine ⟨by (repeat' (first | refine agree_upd rfl ?_ | exact agree_over | exact agree_refl _ _ | refine agree_over2 rfl ?_)), m - 1, _, by omega, Ent.refl _ _, ?_⟩
      exact ⟨k + 1, by omega, rfl, rfl⟩
  · obtain rfl : k = xs.length := by omega
    repeat' (first|(apply OK_seq)|(apply thenQ_n)|(apply OK_region)|(apply OKx_nilK)|(apply OK_block)|(apply blockQ_n)|(apply blockQ_s)|(apply thenQ_e)|(apply blockQ_e;exact rfl)|(apply thenQ_r)|(apply blockQ_r)|(apply OK_condT;exact rfl)|(apply OK_condF;exact rfl)|(apply OK_skip)|(apply OK_exit)|(apply OK_ret)|(apply OKx_move;(conv=>lhs;whnf)<;>exact rfl)|(apply OKx_assign;(conv=>lhs;whnf)<;>exact rfl)|(apply OKx_ldB;exact rfl;(first | exact at0|exact at1|exact at2|exact at3|exact at4|exact at5|exact at6|exact at7);exact rfl)|(apply OKx_ldR;(conv=>lhs;whnf)<;>exact rfl;(with_reducible assumption))|(apply OKx_ldI;exact rfl;(first | exact at0|exact at1|exact at2|exact at3|exact at4|exact at5|exact at6|exact at7);omega)|(apply OKx_len;exact rfl)|(apply OKx_lenR;(conv=>lhs;whnf)<;>exact rfl;(with_reducible assumption))|(apply OKx_lenR2;(conv=>lhs;whnf)<;>exact rfl;(with_reducible assumption))|(apply OKx_lenO;(conv=>lhs;whnf)<;>exact rfl;(first | exact at0|exact at1|exact at2|exact at3|exact at4|exact at5|exact at6|exact at7))|(apply OKx_lss;exact rfl;exact rfl;all_goals (intro _; try (exfalso;omega)))|(apply OKx_leq;exact rfl;exact rfl;all_goals (intro _; try (exfalso;omega)))|(apply OKx_gtr;exact rfl;exact rfl;all_goals (intro _; try (exfalso;omega)))|(apply OKx_idxO;exact rfl;exact rfl;omega)|(apply OKx_idxR;(conv=>lhs;whnf)<;>exact rfl;(with_reducible assumption);exact rfl;omega;intro _ _)|(apply OKx_idxOz;exact rfl;exact rfl;omega;omega)|(apply OKx_idxRz;(conv=>lhs;whnf)<;>exact rfl;(with_reducible assumption);exact rfl;omega;omega;intro _ _)|(apply OKx_inc;exact rfl;exact rfl;omega)|(apply OKx_addN;exact rfl;exact rfl;omega)|(apply OKx_add;exact rfl;exact rfl;omega;omega)|(apply OKx_dec;exact rfl;exact rfl;omega;omega)|(apply OKx_subN;exact rfl;exact rfl;omega;omega)|(apply OKx_sub;exact rfl;exact rfl;omega;omega)|(apply OKx_pickT;exact rfl;(conv=>lhs;whnf)<;>exact rfl)|(apply OKx_pickF;exact rfl;(conv=>lhs;whnf)<;>exact rfl)|(apply OKx_guardT;exact rfl;exact rfl)|(apply OKx_guardF;exact rfl;exact rfl)|(apply OKx_guardU;exact rfl;exact rfl))
    refine bodyQ_r1 (by ((conv=>lhs;whnf)<;>exact rfl)) ?_
    exact ⟨_, Ent.nil, rfl, rfl⟩
set_option maxRecDepth 100000 in
set_option maxHeartbeats 4000000 in
theorem compl_sat (a : Option Addr) (c : Nat) (xs : List Int) (n : Nat) (w : World) (h : Ints w (.slice a xs.length c) xs) (hb : setB xs) (hn : n ≤ 64) (hx : ∀ x ∈ xs, x < (n : Int)) :
    Sat Tryz.prog 32 [.int .i64 (n : Int), .slice a xs.length c] w (fun u L => ∃ a2 c2, (0 < (cmpL xs n).length → ∃ g, a2 = some ⟨g, 0, none⟩) ∧ u = .tuple #[.slice a2 (cmpL xs n).length c2, .int .i64 0] ∧ L = [.row 3 1 (.slice a2 (cmpL xs n).length c2) (cmpL xs n).length (ints (cmpL xs n))]) := by
  have hsl := h.sl
  have hbd := hsl.bound
  have hln := hb.len
  have hcl := cmpL_len xs n
  have hlast : 0 < xs.length → xs.getD (xs.length - 1) 0 < (n : Int) := fun h0 => hx _ (getD_mem xs (xs.length - 1) 0 (by omega))
  refine SatL.of 38 [4, 5] Tryz.func32 (by kernel_rfl) (by kernel_rfl) rfl rfl rfl rfl ?_
  repeat' (first|(apply OK_seq)|(apply thenQ_n)|(apply OK_region)|(apply OKx_gc 53;exact rfl; refine OKx_callV (f := 53) rfl rfl rfl (fun w1 hp => iChk_sat _ xs w1 (h.below hp.below) hb) ?_)|(apply OKx_gc 54;exact rfl; refine OKx_call (f := 54) rfl rfl (fun w1 hp => has_sat a xs.length c w1) ?_; rintro _ _ ⟨gl, rfl, rfl⟩; rw [List.cons_append, List.nil_append])|(apply OKx_gc 55;exact rfl; refine OKx_call (f := 55) rfl rfl (fun w1 hp => members_sat (n : Int) _ _ w1) ?_; rintro _ _ ⟨gn, gi, rfl, rfl⟩; rw [List.cons_append, List.cons_append, List.nil_append])|(apply OKx_gc 21;exact rfl; refine OKx_callL (f := 21) rfl rfl (collect_sat 78 [.pointer (some ⟨gn, 0, none⟩), .pointer (some ⟨gi, 0, none⟩)] (cmZ gn gi _ gl n _) (cmpL xs n) w ⟨_, _, Tryz.func78, by kernel_rfl, rfl⟩ (members1 h hb.1 (by omega) (by omega)) (by omega)) ?_; rintro _ _ ⟨a2, c2, ha2, rfl, rfl⟩)|(apply OKx_nilK)|(apply OK_block)|(apply blockQ_n)|(apply blockQ_s)|(apply thenQ_e)|(apply blockQ_e;exact rfl)|(apply thenQ_r)|(apply blockQ_r)|(apply OK_condT;exact rfl)|(apply OK_condF;exact rfl)|(apply OK_skip)|(apply OK_exit)|(apply OK_ret)|(apply OKx_move;(conv=>lhs;whnf)<;>exact rfl)|(apply OKx_assign;(conv=>lhs;whnf)<;>exact rfl)|(apply OKx_ldB;exact rfl;(first | exact at0|exact at1|exact at2|exact at3|exact at4|exact at5|exact at6|exact at7);exact rfl)|(apply OKx_ldR;(conv=>lhs;whnf)<;>exact rfl;(with_reducible assumption))|(apply OKx_ldI;exact rfl;(first | exact at0|exact at1|exact at2|exact at3|exact at4|exact at5|exact at6|exact at7);omega)|(apply OKx_len;exact rfl)|(apply OKx_lenR;(conv=>lhs;whnf)<;>exact rfl;(with_reducible assumption))|(apply OKx_lenR2;(conv=>lhs;whnf)<;>exact rfl;(with_reducible assumption))|(apply OKx_lenO;(conv=>lhs;whnf)<;>exact rfl;(first | exact at0|exact at1|exact at2|exact at3|exact at4|exact at5|exact at6|exact at7))|(apply OKx_lss;exact rfl;exact rfl;all_goals (intro _; try (exfalso;omega)))|(apply OKx_gtr;exact rfl;exact rfl;all_goals (intro _; try (exfalso;omega)))|(apply OKx_geq;exact rfl;exact rfl;all_goals (intro _; try (exfalso;omega)))|(apply OKx_neq;exact rfl;exact rfl;all_goals (intro _; try (exfalso;omega)))|(apply OKx_idxO;exact rfl;exact rfl;omega)|(apply OKx_idxR;(conv=>lhs;whnf)<;>exact rfl;(with_reducible assumption);exact rfl;omega;intro _ _)|(apply OKx_idxOz;exact rfl;exact rfl;omega;omega)|(apply OKx_idxRz;(conv=>lhs;whnf)<;>exact rfl;(with_reducible assumption);exact rfl;omega;omega;intro _ _)|(apply OKx_dec;exact rfl;exact rfl;omega;omega)|(apply OKx_subN;exact rfl;exact rfl;omega;omega)|(apply OKx_sub;exact rfl;exact rfl;omega;omega)|(apply OKx_pickT;exact rfl;(conv=>lhs;whnf)<;>exact rfl)|(apply OKx_pickF;exact rfl;(conv=>lhs;whnf)<;>exact rfl)|(apply OKx_guardT;exact rfl;exact rfl)|(apply OKx_guardF;exact rfl;exact rfl)|(apply OKx_guardU;exact rfl;exact rfl)|(apply OKx_alloc1;intro _)|(apply OKx_stB;exact rfl;(conv=>lhs;whnf)<;>exact rfl;exact rfl;exact rfl;(first | exact at0|exact at1|exact at2|exact at3|exact at4|exact at5|exact at6|exact at7);exact rfl;exact rfl;exact rfl)|(apply OKx_func;exact rfl;exact rfl))
  all_goals
    refine bodyQ_r2 (by ((conv=>lhs;whnf)<;>exact rfl)) (by ((conv=>lhs;whnf)<;>exact rfl)) ?_
    exact ⟨_, Ent.sub (List.Sublist.cons_cons _ (List.nil_sublist _)), a2, c2, ha2, rfl, rfl⟩
def spC (n len : Nat) : Int := if len < 2 ∨ n - 2 < len then 8 else 0
set_option maxRecDepth 100000 in
set_option maxHeartbeats 4000000 in
theorem spChk_sat (v : Value) (xs : List Int) (n : Nat) (w : World) (h : Ints w v xs) (hb : setB xs) (h1 : 1 ≤ n) (hn : n ≤ 32) (hx : ∀ x ∈ xs, 0 < x ∧ x < (n : Int)) : SatV Tryz.prog 33 [.int .i64 (n : Int), v] w (.int .i64 (spC n xs.length)) := by
  have hsl := h.sl
  have hbd := hsl.bound
  have hln := hb.len
  have hlast : 0 < xs.length → xs.getD (xs.length - 1) 0 < (n : Int) := fun h0 => (hx _ (getD_mem xs (xs.length - 1) 0 (by omega))).2
  have hfst : 0 < xs.length → 0 < xs.getD 0 0 := fun h0 => (hx _ (getD_mem xs 0 0 h0)).1
  have hfst2 : 0 < xs.length → 0 < xs.getD (Int.toNat 0) 0 := hfst
  unfold spC
  refine SatL.of 48 [4] Tryz.func33 (by kernel_rfl) (by kernel_rfl) rfl rfl rfl rfl ?_
  repeat' (first|(apply OK_seq)|(apply thenQ_n)|(apply OK_region)|(apply OKx_gc 53;exact rfl; refine OKx_callV (f := 53) rfl rfl rfl (fun w1 hp => iChk_sat _ xs w1 (h.below hp.below) hb) ?_)|(apply OKx_nilK)|(apply OK_block)|(apply blockQ_n)|(apply blockQ_s)|(apply thenQ_e)|(apply blockQ_e;exact rfl)|(apply thenQ_r)|(apply blockQ_r)|(apply OK_condT;exact rfl)|(apply OK_condF;exact rfl)|(apply OK_skip)|(apply OK_exit)|(apply OK_ret)|(apply OKx_move;(conv=>lhs;whnf)<;>exact rfl)|(apply OKx_assign;(conv=>lhs;whnf)<;>exact rfl)|(apply OKx_ldB;exact rfl;(first | exact at0|exact at1|exact at2|exact at3|exact at4|exact at5|exact at6|exact at7);exact rfl)|(apply OKx_ldR;(conv=>lhs;whnf)<;>exact rfl;(with_reducible assumption))|(apply OKx_ldI;exact rfl;(first | exact at0|exact at1|exact at2|exact at3|exact at4|exact at5|exact at6|exact at7);omega)|(apply OKx_len;exact rfl)|(apply OKx_lenR;(conv=>lhs;whnf)<;>exact rfl;(with_reducible assumption))|(apply OKx_lenR2;(conv=>lhs;whnf)<;>exact rfl;(with_reducible assumption))|(apply OKx_lenO;(conv=>lhs;whnf)<;>exact rfl;(first | exact at0|exact at1|exact at2|exact at3|exact at4|exact at5|exact at6|exact at7))|(apply OKx_lss;exact rfl;exact rfl;all_goals (intro _; try (exfalso;omega)))|(apply OKx_gtr;exact rfl;exact rfl;all_goals (intro _; try (exfalso;omega)))|(apply OKx_geq;exact rfl;exact rfl;all_goals (intro _; try (exfalso;omega)))|(apply OKx_eql;exact rfl;exact rfl;all_goals (intro _; try (exfalso;omega)))|(apply OKx_neq;exact rfl;exact rfl;all_goals (intro _; try (exfalso;omega)))|(apply OKx_idxO;exact rfl;exact rfl;omega)|(apply OKx_idxR;(conv=>lhs;whnf)<;>exact rfl;(with_reducible assumption);exact rfl;omega;intro _ _)|(apply OKx_idxOz;exact rfl;exact rfl;omega;omega)|(apply OKx_idxRz;(conv=>lhs;whnf)<;>exact rfl;(with_reducible assumption);exact rfl;omega;omega;intro _ _)|(apply OKx_dec;exact rfl;exact rfl;omega;omega)|(apply OKx_subN;exact rfl;exact rfl;omega;omega)|(apply OKx_sub;exact rfl;exact rfl;omega;omega)|(apply OKx_pickT;exact rfl;(conv=>lhs;whnf)<;>exact rfl)|(apply OKx_pickF;exact rfl;(conv=>lhs;whnf)<;>exact rfl)|(apply OKx_guardT;exact rfl;exact rfl)|(apply OKx_guardF;exact rfl;exact rfl)|(apply OKx_guardU;exact rfl;exact rfl))
  all_goals
    refine bodyQ_r1 (by ((conv=>lhs;whnf)<;>exact rfl)) ?_
    first
      | (rw [if_pos (by omega)]; exact ⟨_, Ent.nil, rfl, rfl⟩)
      | (rw [if_neg (by omega)]; exact ⟨_, Ent.nil, rfl, rfl⟩)
end Go.Proofs.YtpknpbeiifjmgaaGreat
