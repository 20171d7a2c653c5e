/-
  Part 14 of the proof: Wr27, Eq27. No statement of the seat is proved here.
-/
import Derived.Test.YthnlnffmmioapaaGreatDoorMHCl2713
import Derived.Lib.AppendIntMem
namespace Go.Proofs.YthnlnffmmioapaaGreatDoor
open Go.RowKit
def TbL (w : World) : Prop := Lib.TabIs Tryz.prog w "internal/strconv.uint64pow10" .u64 Lib.pow10Tab
theorem TbL.below {w w' : World} (h : TbL w) (hb : Below w.heap.size w w') : TbL w' := Lib.tabBelow_of_tabIs h w' hb
set_option maxRecDepth 100000 in
set_option maxHeartbeats 4000000 in
theorem itoa_sat (n : Int) (w : World) (ht : TbL w) (h0 : -9223372036854775808 ≤ n) (h1 : n ≤ 9223372036854775807) : SatV Tryz.prog 109 [.int .i64 n] w (.string (bOf (Lib.itoa n))) :=
  Sat.lib ⟨_, _, Tryz.func109, by kernel_rfl, rfl⟩ fun w1 hb => by
    refine (Tryz.strconv_Itoa n h0 h1 w1 (ht.below hb)).mono ?_
    rintro e w' ⟨rfl, k, os, rfl⟩
    exact ⟨_, [], rfl, ⟨Lib.below_grow _ w1 (Nat.le_refl _) k os, Lib.size_grow w1 k os, by simp, List.Pairwise.nil⟩, rfl, rfl⟩
set_option maxRecDepth 100000 in
set_option maxHeartbeats 4000000 in
theorem bldB_sat (b : Nat) (p v : Value) (l : List UInt8) (c : UInt8) (w0 : World) (K : List Res) (hp : bldP b p) (hl : l.length + 1 ≤ 140737488355328) :
    SatL Tryz.prog 90 [.pointer (some ⟨b, 0, none⟩), .int .u8 (c.toNat : Int)] w0 (bldL b p v l ++ K) (fun u L => u = .nilIface ∧ ∃ v', L = bldL b (.pointer (some ⟨b, 0, none⟩)) v' (l ++ [c]) ++ K) := by
  unfold bldL
  rw [List.cons_append, List.cons_append, List.nil_append]
  refine SatL.of 17 [4] Tryz.func90 (by kernel_rfl) (by kernel_rfl) rfl rfl rfl rfl ?_
  repeat' (first|(apply OK_seq)|(apply thenQ_n)|(apply OK_region)|(apply OKx_gc 107;exact rfl; refine OKx_callL (f := 107) rfl rfl (copyCheck_sat b p v _ _ hp) ?_; rintro _ _ ⟨rfl, rfl⟩)|(apply OKx_gb; refine OKx_append1 (y := .int .u8 (c.toNat : Int)) 2 0 rfl rfl rfl rfl rfl (by omega) (by omega) ?_; intro gA cA)|(apply OKx_nilK)|(apply OK_ret)|(apply OKx_move;(conv=>lhs;whnf)<;>exact rfl)|(apply OKx_assign;(conv=>lhs;whnf)<;>exact rfl)|(apply OKx_ldB;exact rfl; (apply atP;constructor);exact rfl)|(apply OKx_fldO;exact rfl;exact rfl)|(apply OKx_stB;exact rfl;(conv=>lhs;whnf)<;>exact rfl;exact rfl;exact rfl; (apply atP;constructor);exact rfl;exact rfl;exact rfl)|(apply OKx_slit1;(conv=>lhs;whnf)<;>exact rfl;exact rfl;intro _)|(apply OKx_nilCheck;exact rfl))
  refine bodyQ_r1 (by ((conv=>lhs;whnf)<;>exact rfl)) ?_
  refine ⟨.box 106 b [.pointer (some ⟨b, 0, none⟩), .slice (some ⟨gA, 0, none⟩) (l.length + 1) cA] :: .row 5 1 (.slice (some ⟨gA, 0, none⟩) (l.length + 1) cA) (l.length + 1) (Lib.byteCells l ++ [.int .u8 (c.toNat : Int)]) :: K, Ent.sub (List.sublist_cons_self _ _), rfl, .slice (some ⟨gA, 0, none⟩) (l.length + 1) cA, ?_⟩
  have e : Lib.byteCells (l ++ [c]) = Lib.byteCells l ++ [.int .u8 (c.toNat : Int)] := by simp [Lib.byteCells]
  rw [e, List.length_append]
  rfl
def WrtR (b : Nat) (l : List UInt8) (K : List Res) (u : Value) (L : List Res) : Prop := u = .tuple #[] ∧ ∃ p v, bldP b p ∧ L = bldL b p v l ++ K
def Wrt1 (x : Cnd) : Prop := ∀ (xv : Value) (b : Nat) (p v : Value) (l : List UInt8) (w0 : World) (K : List Res), Exp w0 x xv → KdL w0 → TbL w0 → bldP b p → l.length + x.prt.length ≤ 140737488355328 → SatL Tryz.prog 89 [.pointer (some ⟨b, 0, none⟩), xv] w0 (bldL b p v l ++ K) (WrtR b (l ++ x.prt) K)
theorem perm21 (a : Res) (A B : Res) (K : List Res) : (a :: A :: B :: K).Perm (A :: B :: a :: K) := (List.perm_append_comm (l₁ := [a]) (l₂ := [A, B])).append_right K
set_option maxRecDepth 100000 in
set_option maxHeartbeats 4000000 in
theorem wrt1_sat (k : Int) (x : Cnd) (hx : Wrt1 x) (xv : Value) (b : Nat) (p v : Value) (l : List UInt8) (w0 : World) (K : List Res) (gx go i j : Nat) (cs : List Value) (hE : Exp w0 x xv) (hkd : KdL w0) (ht : TbL w0) (hp : bldP b p) (hi : K[i]? = some (.box 24 gx (.int .i64 k :: cs))) (hj : K[j]? = some (.box 104 go [.pointer (some ⟨b, 0, none⟩)]))
    (hl : l.length + (parW (parK k x.kind) x.prt).length ≤ 140737488355328) :
    SatL Tryz.prog 108 [xv, .pointer (some ⟨gx, 0, none⟩), .pointer (some ⟨go, 0, none⟩)] w0 (bldL b p v l ++ K) (WrtR b (l ++ parW (parK k x.kind) x.prt) K) := by
  have hpr : bldP b (.pointer (some ⟨b, 0, none⟩)) := .inr rfl
  have hE0 := hE
  obtain ⟨pv, g, rfl, hs, _⟩ := hE.shape
  cases hpk : parK k x.kind
  · rw [hpk] at hl
    have hw : parW false x.prt = x.prt := rfl
    rw [hw] at hl ⊢
    have h12 : ¬ x.kind = 12 := fun e => by rw [e] at hpk; simp [parK] at hpk
    have h11 : x.kind = 11 → k = 12 := fun e => by
      rw [e] at hpk
      by_cases h : k = 12
      · exact h
      · simp [parK, h] at hpk
    refine SatL.of 27 [] Tryz.func108 (by kernel_rfl) (by kernel_rfl) rfl rfl rfl rfl ?_
    unfold bldL
    simp only [List.cons_append, List.nil_append]
    repeat' (first|(apply OK_seq)|(apply thenQ_n)|(apply OK_region)|(apply OKx_gl; refine OKx_ldB (j + 3) rfl (by simpa using hj) rfl ?_)|(apply OKx_gl; refine OKx_ldB (i + 3) rfl (by simpa using hi) rfl ?_)|(apply OKx_gc 89;exact rfl; refine OKx_ent (Ent.perm (perm21 _ _ _ _)) ?_; refine OKx_callL (f := 89) rfl rfl (hx _ b p v l w0 (_ :: K) hE0 hkd ht hp hl) ?_; rintro _ _ ⟨rfl, p2, v2, hp2, rfl⟩)|(apply OKx_nilK)|(apply OK_condF;exact rfl)|(apply OK_skip)|(apply OKx_move;(conv=>lhs;whnf)<;>exact rfl)|(apply OKx_ldB;exact rfl; (apply atP;constructor);exact rfl)|(apply OKx_eql;exact rfl;exact rfl;all_goals (intro _; try (exfalso;omega)))|(apply OKx_neq;exact rfl;exact rfl;all_goals (intro _; try (exfalso;omega)))|(apply OKx_fldO;exact rfl;exact rfl)|(apply OKx_pickT;exact rfl;(conv=>lhs;whnf)<;>exact rfl)|(apply OKx_pickF;exact rfl;(conv=>lhs;whnf)<;>exact rfl)|(apply OKx_guardT;exact rfl;exact rfl)|(apply OKx_guardF;exact rfl;exact rfl)|(apply OKx_boxA;exact rfl;intro _)|(apply OKx_ldBA;exact rfl; (apply atP;constructor);exact rfl))
    all_goals
      first | refine bodyQ_r0 ?_ | refine bodyQ_n0 ?_
      exact ⟨bldL b p2 v2 (l ++ x.prt) ++ K, Ent.sub (List.Sublist.append (List.Sublist.refl _) (List.sublist_cons_self _ _)), rfl, p2, v2, hp2, rfl⟩
  · rw [hpk] at hl
    have hw : parW true x.prt = 40 :: (x.prt ++ [41]) := rfl
    rw [hw] at hl ⊢
    rw [List.length_cons, List.length_append] at hl
    have hl1 : ([41] : List UInt8).length = 1 := rfl
    have hk' : x.kind = 12 ∨ (x.kind = 11 ∧ k ≠ 12) := by
      unfold parK at hpk
      simpa using hpk
    have hl2 : (l ++ [(40 : UInt8)]).length + x.prt.length ≤ 140737488355328 := by rw [List.length_append]; simp;omega
    have hl3 : (l ++ [(40 : UInt8)] ++ x.prt).length + 1 ≤ 140737488355328 := by rw [List.length_append, List.length_append]; simp;omega
    refine SatL.of 27 [] Tryz.func108 (by kernel_rfl) (by kernel_rfl) rfl rfl rfl rfl ?_
    unfold bldL
    simp only [List.cons_append, List.nil_append]
    repeat' (first|(apply OK_seq)|(apply thenQ_n)|(apply OK_region)|(apply OKx_gl; refine OKx_ldB (j + 3) rfl (by simpa [bldL] using hj) rfl ?_)|(apply OKx_gl; refine OKx_ldB (i + 3) rfl (by simpa [bldL] using hi) rfl ?_)|(apply OKx_gc 90;exact rfl; refine OKx_ent (Ent.perm (perm21 _ _ _ _)) ?_; refine OKx_callL (f := 90) rfl rfl (bldB_sat b p v l 40 w0 (_ :: K) hp (by omega)) ?_; rintro _ _ ⟨rfl, v2, rfl⟩)|(apply OKx_gc 89;exact rfl; refine OKx_callL (f := 89) rfl rfl (hx _ b (.pointer (some ⟨b, 0, none⟩)) _ (l ++ [40]) w0 (_ :: K) hE0 hkd ht hpr hl2) ?_; rintro _ _ ⟨rfl, p3, v3, hp3, rfl⟩)|(apply OKx_gc 90;exact rfl; refine OKx_callL (f := 90) rfl rfl (bldB_sat b _ _ (l ++ [40] ++ x.prt) 41 w0 (_ :: K) (by assumption) hl3) ?_; rintro _ _ ⟨rfl, v4, rfl⟩)|(apply OKx_nilK)|(apply thenQ_r)|(apply OK_condT;exact rfl)|(apply OK_ret)|(apply OKx_move;(conv=>lhs;whnf)<;>exact rfl)|(apply OKx_ldB;exact rfl; (apply atP;constructor);exact rfl)|(apply OKx_eql;exact rfl;exact rfl;all_goals (intro _; try (exfalso;omega)))|(apply OKx_neq;exact rfl;exact rfl;all_goals (intro _; try (exfalso;omega)))|(apply OKx_fldO;exact rfl;exact rfl)|(apply OKx_pickT;exact rfl;(conv=>lhs;whnf)<;>exact rfl)|(apply OKx_pickF;exact rfl;(conv=>lhs;whnf)<;>exact rfl)|(apply OKx_guardT;exact rfl;exact rfl)|(apply OKx_guardF;exact rfl;exact rfl)|(apply OKx_guardU;exact rfl;exact rfl)|(apply OKx_boxA;exact rfl;intro _)|(apply OKx_ldBA;exact rfl; (apply atP;constructor);exact rfl))
    all_goals (try (exfalso;omega))
    all_goals
      first | refine bodyQ_r0 ?_ | refine bodyQ_n0 ?_
      exact ⟨bldL b (.pointer (some ⟨b, 0, none⟩)) v4 (l ++ [40] ++ x.prt ++ [41]) ++ K, Ent.sub (List.Sublist.append (List.Sublist.refl _) (List.sublist_cons_self _ _)), rfl, _, v4, hpr, by simp⟩
theorem perm32 (a c e : Res) (A B : Res) (K : List Res) : (a :: c :: e :: A :: B :: K).Perm (A :: B :: a :: c :: e :: K) := (List.perm_append_comm (l₁ := [a, c, e]) (l₂ := [A, B])).append_right K
set_option maxRecDepth 100000 in
set_option maxHeartbeats 4000000 in
theorem write_sat : ∀ (d : Nat) (x : Cnd), x.depth ≤ d → x.own = true → Wrt1 x
  | 0, x, hd, _ => by have := depth_pos x;omega
  | d + 1, x, hd, ho => by
    intro xv b p v l w0 K hE hkd ht hp hl
    obtain ⟨pv, g, rfl, hs, hP, hEs⟩ := hE.shape
    have hon := ho
    rw [own_eq, Bool.and_eq_true, List.all_eq_true] at hon
    obtain ⟨hnd, hon⟩ := hon
    obtain ⟨n1, n2, n3, n4, n5, n6, n7, n8, n9⟩ := node_iff.1 hnd
    have ih : ∀ j, (hj : j < x.parts.length) → Wrt1 x.parts[j] := fun j hj => write_sat d _ (by have := depth_in (List.getElem_mem hj);omega) (hon _ (List.getElem_mem hj))
    obtain ⟨i, hi⟩ := Int.eq_ofNat_of_zero_le (show 0 ≤ x.kind by omega)
    have hi' : x.kind.toNat = i := by omega
    have hpt := hkd.pt i (by omega)
    have hpr : bldP b (.pointer (some ⟨b, 0, none⟩)) := .inr rfl
    have hprt := prt_eq x
    have hwl := wrdK_len x.kind
    have hwi : wrdK x.kind = wrdK (i : Int) := by rw [hi]
    by_cases h11 : 11 ≤ x.kind
    · rw [if_pos h11] at hprt
      by_cases h13 : x.kind = 13
      · rw [if_pos h13] at hprt
        have e1 : lstK 13 = 1 := rfl
        have e2 : mstK 13 = 1 := rfl
        have hm : mstK (i : Int) = 1 := by rw [← hi, h13]; rfl
        have hpl : x.parts.length = 1 := by
          rw [h13] at n8 n9
          have := n9 (by omega)
          omega
        obtain ⟨y, hy⟩ := List.length_eq_one_iff.1 hpl
        have hy0 : x.parts[0]'(by omega) = y := by simp [hy]
        have hF : Cnd.prtF x.kind x.parts = parW (parK x.kind y.kind) y.prt := by rw [hy]; rfl
        have hEj := hEs 0 (by omega)
        have ih0 := ih 0 (by omega)
        rw [hy0] at hEj ih0
        rw [hF, hwi] at hprt
        rw [hprt] at hl ⊢
        have hwl2 : (wrdK (i : Int)).length ≤ 12 := by rw [← hwi]; exact hwl
        have hl' := hl
        rw [List.length_append, List.length_cons] at hl'
        refine SatL.of 72 [] Tryz.func89 (by kernel_rfl) (by kernel_rfl) rfl rfl rfl rfl ?_
        unfold bldL
        simp only [List.cons_append, List.nil_append]
        repeat' (first|(apply OK_seq)|(apply thenQ_n)|(apply OK_region)|(refine OKx_idxAs Tryz.underlying122 rfl rfl (by omega) (by omega) ?_; rw [hi', Nat.zero_add])|(apply OKx_gl; refine OKx_ldRA rfl hpt ?_; rw [kdC_eq, hm])|(apply OKx_gi; refine OKx_idxR2 (i := 0) rfl hP rfl (by omega) ?_;intro _ _)|(refine OKx_func rfl rfl ?_; refine OKx_ent (Ent.perm (perm32 _ _ _ _ _ _)) ?_)|(refine OKx_sadd7 (a := wrdK i) (b := [32]) (c := wrdK i ++ [32]) rfl rfl (by simp;omega) rfl ?_)|(apply OKx_gc 88;exact rfl; refine OKx_callL (f := 88) rfl rfl (bldW_sat b p v l (bOf (wrdK i ++ [32])) w0 _ hp (by rw [bOf_size, List.length_append]; simp;omega)) ?_; rintro _ _ ⟨rfl, v3, rfl⟩)|(apply OKx_gc 108;exact rfl; refine OKx_callL (f := 108) rfl rfl (wrt1_sat x.kind y ih0 _ b _ v3 (l ++ (wrdK i ++ [32])) w0 _ _ _ 1 2 _ hEj hkd ht hpr rfl rfl (by rw [List.length_append, List.length_append]; simp;omega)) ?_; rintro _ _ ⟨rfl, p3, v4, hp3, rfl⟩)|(apply OKx_nilK)|(apply OK_block)|(apply thenQ_r)|(apply blockQ_r)|(apply OK_condT;exact rfl)|(apply OK_condF;exact rfl)|(apply OK_ret)|(apply OKx_move;(conv=>lhs;whnf)<;>exact rfl)|(apply OKx_assign;(conv=>lhs;whnf)<;>exact rfl)|(apply OKx_ldB;exact rfl; (apply atP;constructor);exact rfl)|(apply OKx_eql;exact rfl;exact rfl;all_goals (intro _; try (exfalso;omega)))|(apply OKx_fldO;exact rfl;exact rfl)|(apply OKx_boxA;exact rfl;intro _)|(apply OKx_allocA;intro _)|(apply OKx_ldRA;(conv=>lhs;whnf)<;>exact rfl;(with_reducible assumption))|(apply OKx_box1;(conv=>lhs;whnf)<;>exact rfl;exact rfl;intro _)|(apply OKx_stBA; kernel_rfl;exact rfl;exact rfl;exact rfl; (apply atP;constructor);exact rfl;exact rfl;exact rfl))
        all_goals (try (exfalso;omega))
        first | refine bodyQ_r0 ?_ | refine bodyQ_n0 ?_
        exact ⟨bldL b p3 v4 (l ++ (wrdK i ++ [32]) ++ parW (parK x.kind y.kind) y.prt) ++ K, Ent.sub (List.Sublist.append (List.Sublist.refl _) ((((List.Sublist.refl K).cons _).cons _).cons _)), rfl, p3, v4, hp3, by simp⟩
      · rw [if_neg h13] at hprt
        have hm : mstK (i : Int) = -1 := by rw [← hi]; unfold mstK; rw [if_neg h13, if_pos h11]
        have hle := prtJ_le x.kind x.parts
        have hst := prtJ_step x.kind x.parts
        have hN := hP.1
        rw [hprt] at hl ⊢
        refine SatL.of 72 [] Tryz.func89 (by kernel_rfl) (by kernel_rfl) rfl rfl rfl rfl ?_
        unfold bldL
        simp only [List.cons_append, List.nil_append]
        repeat' (first|(apply OK_seq)|(apply thenQ_n)|(apply OK_region)|(refine OKx_idxAs Tryz.underlying122 rfl rfl (by omega) (by omega) ?_; rw [hi', Nat.zero_add])|(apply OKx_gl; refine OKx_ldRA rfl hpt ?_; rw [kdC_eq, hm])|(refine OKx_func rfl rfl ?_; refine OKx_ent (Ent.perm (perm32 _ _ _ _ _ _)) ?_)|(apply OKx_nilK)|(apply OK_block)|(apply OK_condT;exact rfl)|(apply OKx_move;(conv=>lhs;whnf)<;>exact rfl)|(apply OKx_assign;(conv=>lhs;whnf)<;>exact rfl)|(apply OKx_ldB;exact rfl; (apply atP;constructor);exact rfl)|(apply OKx_lenR2;(conv=>lhs;whnf)<;>exact rfl;(with_reducible assumption))|(apply OKx_eql;exact rfl;exact rfl;all_goals (intro _; try (exfalso;omega)))|(apply OKx_fldO;exact rfl;exact rfl)|(apply OKx_boxA;exact rfl;intro _)|(apply OKx_allocA;intro _)|(apply OKx_box1;(conv=>lhs;whnf)<;>exact rfl;exact rfl;intro _)|(apply OKx_stBA; kernel_rfl;exact rfl;exact rfl;exact rfl; (apply atP;constructor);exact rfl;exact rfl;exact rfl))
        rename_i gO gX gK _
        refine OK_loop1 20 [6, 7, 20, 21, 22, 23, 24, 25, 26, 27, 28, 29, 30, 31, 32, 33, 34, 35, 36] (fun m v L => ∃ (j : Nat) (p2 v2 : Value), j + m = x.parts.length ∧ v = .int .i64 (j : Int) ∧ bldP b p2 ∧ L = bldL b p2 v2 (l ++ Cnd.prtJ x.kind (x.parts.take j)) ++ (.box 121 gK [.string (bOf (wrdK i)), .bool (numK i), .bool (txtK i), .int .i64 (lstK i), .int .i64 (-1)] :: .box 24 gX [.int .i64 x.kind, .int .i64 x.num, .string x.text, pv] :: .box 104 gO [.pointer (some ⟨b, 0, none⟩)] :: K)) x.parts.length _ (Ent.refl _ _) ⟨0, p, v, by omega, rfl, hp, by simp [Cnd.prtJ, bldL]⟩ ?_
        rintro m vj L G ⟨j, p2, v2, hm, rfl, hp2, rfl⟩
        by_cases hj : j < x.parts.length
        · have hst := hst j hj
          have hl1 := hle (j + 1)
          rw [hst] at hl1
          obtain ⟨pvj, gj, hej, hsj, hPj, _⟩ := (hEs j hj).shape
          obtain ⟨_, aj, cj, rfl, _⟩ := id hPj
          have heq : ((List.range 4).map (g j)).toArray = #[.int .i64 x.parts[j].kind, .int .i64 x.parts[j].num, .string x.parts[j].text, .slice aj x.parts[j].parts.length cj] := Value.agg.inj hej
          have hEj := hEs j hj
          rw [hej] at hEj
          rw [List.length_append] at hl1
          have hprj : addP x.kind j x.parts[j] = (if j = 0 then [] else 32 :: (wrdK x.kind ++ [32])) ++ parW (parK x.kind x.parts[j].kind) x.parts[j].prt := rfl
          by_cases hj0 : j = 0
          · subst hj0
            rw [if_pos rfl, List.nil_append] at hprj
            rw [hprj] at hst hl1
            repeat' (first|(apply OK_seq)|(apply thenQ_n)|(apply OK_region)|(apply OKx_gi; refine OKx_idxR2 (i := 0) rfl hP rfl hj ?_; intro pp hpp)|(apply OKx_gl; refine OKx_ldRA rfl hpp ?_; rw [heq])|(apply OKx_gc 108;exact rfl; refine OKx_ent (Ent.perm (perm21 _ _ _ _)) ?_; refine OKx_callL (f := 108) rfl rfl (wrt1_sat x.kind x.parts[0] (ih 0 hj) _ b p2 v2 (l ++ Cnd.prtJ x.kind (x.parts.take 0)) w0 _ gX gO 2 3 _ hEj hkd ht hp2 rfl rfl (by rw [List.length_append];omega)) ?_; rintro _ _ ⟨rfl, p3, v3, hp3, rfl⟩)|(apply OKx_nilK)|(apply OK_block)|(apply blockQ_n)|(apply OK_condT;exact rfl)|(apply OK_condF;exact rfl)|(apply OK_skip)|(apply OKx_move;(conv=>lhs;whnf)<;>exact rfl)|(apply OKx_assign;(conv=>lhs;whnf)<;>exact rfl)|(apply OKx_lss;exact rfl;exact rfl;all_goals (intro _; try (exfalso;omega)))|(apply OKx_gtr;exact rfl;exact rfl;all_goals (intro _; try (exfalso;omega)))|(apply OKx_inc;exact rfl;exact rfl;omega)|(apply OKx_allocA;intro _)|(apply OKx_ldBA;exact rfl; (apply atP;constructor);exact rfl)|(apply OKx_stBA; kernel_rfl;exact rfl;exact rfl;exact rfl; (apply atP;constructor);exact rfl;exact rfl;exact rfl))
            refine ⟨by (repeat' (first | refine agree_upd rfl ?_ | exact agree_over | exact agree_refl _ _ | refine agree_over2 rfl ?_)), m - 1, _, by omega, Ent.sub (List.Sublist.append (List.Sublist.refl _) (List.sublist_cons_self _ _)), ?_⟩
            exact ⟨1, p3, v3, by omega, rfl, hp3, by rw [show l ++ Cnd.prtJ x.kind (x.parts.take (0 + 1)) = l ++ Cnd.prtJ x.kind (x.parts.take 0) ++ parW (parK x.kind x.parts[0].kind) x.parts[0].prt by rw [hst, List.append_assoc]]; rfl⟩
          · rw [if_neg hj0, hwi] at hprj
            rw [hprj, List.length_append, List.length_cons, List.length_append] at hl1
            have hl2 : ([32] : List UInt8).length = 1 := rfl
            have hwl2 : (wrdK (i : Int)).length ≤ 12 := by rw [← hwi]; exact hwl
            repeat' (first|(apply OK_seq)|(apply thenQ_n)|(apply OK_region)|(apply OKx_gi; refine OKx_idxR2 (i := j) rfl hP rfl hj ?_; intro pp hpp)|(apply OKx_gl; refine OKx_ldRA rfl hpp ?_; rw [heq])|(refine OKx_sadd7 (a := [32]) (b := wrdK i) (c := 32 :: wrdK i) rfl rfl (by simp;omega) rfl ?_)|(refine OKx_sadd7 (a := 32 :: wrdK i) (b := [32]) (c := 32 :: (wrdK i ++ [32])) rfl rfl (by simp;omega) rfl ?_)|(apply OKx_gc 88;exact rfl; refine OKx_ent (Ent.perm (perm21 _ _ _ _)) ?_; refine OKx_callL (f := 88) rfl rfl (bldW_sat b p2 v2 (l ++ Cnd.prtJ x.kind (x.parts.take j)) (bOf (32 :: (wrdK i ++ [32]))) w0 _ hp2 (by rw [List.length_append, bOf_size, List.length_cons, List.length_append];omega)) ?_; rintro _ _ ⟨rfl, v3, rfl⟩)|(apply OKx_gc 108;exact rfl; refine OKx_callL (f := 108) rfl rfl (wrt1_sat x.kind x.parts[j] (ih j hj) _ b _ v3 (l ++ Cnd.prtJ x.kind (x.parts.take j) ++ (32 :: (wrdK i ++ [32]))) w0 _ gX gO 2 3 _ hEj hkd ht hpr rfl rfl (by rw [List.length_append, List.length_append, List.length_cons, List.length_append];omega)) ?_; rintro _ _ ⟨rfl, p3, v4, hp3, rfl⟩)|(apply OKx_nilK)|(apply OK_block)|(apply blockQ_n)|(apply OK_condT;exact rfl)|(apply OK_skip)|(apply OKx_move;(conv=>lhs;whnf)<;>exact rfl)|(apply OKx_assign;(conv=>lhs;whnf)<;>exact rfl)|(apply OKx_ldB;exact rfl; (apply atP;constructor);exact rfl)|(apply OKx_lss;exact rfl;exact rfl;all_goals (intro _; try (exfalso;omega)))|(apply OKx_gtr;exact rfl;exact rfl;all_goals (intro _; try (exfalso;omega)))|(apply OKx_fldO;exact rfl;exact rfl)|(apply OKx_inc;exact rfl;exact rfl;omega)|(apply OKx_allocA;intro _)|(apply OKx_ldBA;exact rfl; (apply atP;constructor);exact rfl)|(apply OKx_stBA; kernel_rfl;exact rfl;exact rfl;exact rfl; (apply atP;constructor);exact rfl;exact rfl;exact rfl))
            all_goals (try (exfalso;omega))
            refine ⟨by (repeat' (first | refine agree_upd rfl ?_ | exact agree_over | exact agree_refl _ _ | refine agree_over2 rfl ?_)), m - 1, _, by omega, Ent.sub (List.Sublist.append (List.Sublist.refl _) (List.sublist_cons_self _ _)), ?_⟩
            exact ⟨j + 1, p3, v4, by omega, rfl, hp3, by rw [show l ++ Cnd.prtJ x.kind (x.parts.take (j + 1)) = l ++ Cnd.prtJ x.kind (x.parts.take j) ++ (32 :: (wrdK i ++ [32])) ++ parW (parK x.kind x.parts[j].kind) x.parts[j].prt by rw [hst, hprj]; simp only [List.append_assoc]]; rfl⟩
        · obtain rfl : j = x.parts.length := by omega
          rw [List.take_length]
          repeat' (first|(apply OK_seq)|(apply thenQ_n)|(apply OK_region)|(apply OKx_nilK)|(apply blockQ_s)|(apply thenQ_e)|(apply thenQ_r)|(apply blockQ_r)|(apply OK_condF;exact rfl)|(apply OK_exit)|(apply OK_ret)|(apply OKx_lss;exact rfl;exact rfl;all_goals (intro _; try (exfalso;omega))))
          first | refine bodyQ_r0 ?_ | refine bodyQ_n0 ?_
          exact ⟨bldL b p2 v2 (l ++ Cnd.prtJ x.kind x.parts) ++ K, Ent.sub (List.Sublist.append (List.Sublist.refl _) ((((List.Sublist.refl K).cons _).cons _).cons _)), rfl, p2, v2, hp2, rfl⟩
    · rw [if_neg h11] at hprt
      have hm : mstK (i : Int) = 0 := by rw [← hi]; unfold mstK; rw [if_neg (by omega), if_neg h11]
      have hwl2 : (wrdK (i : Int)).length ≤ 12 := by rw [← hwi]; exact hwl
      have hit := fun w1 (h : Below w0.heap.size w0 w1) => itoa_sat x.num w1 (ht.below h) (by omega) (by omega)
      rw [hprt] at hl ⊢
      rw [hwi] at hl ⊢
      cases hN : numK x.kind <;> cases hT : txtK x.kind
      · have hN' : numK (i : Int) = false := by rw [← hi]; exact hN
        have hT' : txtK (i : Int) = false := by rw [← hi]; exact hT
        rw [hN, hT] at hl
        simp only [Bool.false_eq_true, if_false, List.append_nil] at hl ⊢
        refine SatL.of 72 [] Tryz.func89 (by kernel_rfl) (by kernel_rfl) rfl rfl rfl rfl ?_
        unfold bldL
        simp only [List.cons_append, List.nil_append]
        repeat' (first|(apply OK_seq)|(apply thenQ_n)|(apply OK_region)|(refine OKx_idxAs Tryz.underlying122 rfl rfl (by omega) (by omega) ?_; rw [hi', Nat.zero_add])|(apply OKx_gl; refine OKx_ldRA rfl hpt ?_; rw [kdC_eq, hm, hN', hT'])|(refine OKx_func rfl rfl ?_; refine OKx_ent (Ent.perm (perm32 _ _ _ _ _ _)) ?_)|(apply OKx_gc 88;exact rfl; refine OKx_callL (f := 88) rfl rfl (bldW_sat b p v l (bOf (wrdK i)) w0 _ hp (by rw [bOf_size];omega)) ?_; rintro _ _ ⟨rfl, v3, rfl⟩)|(apply OKx_nilK)|(apply OK_block)|(apply blockQ_n)|(apply OK_condF;exact rfl)|(apply OK_skip)|(apply OKx_assign;(conv=>lhs;whnf)<;>exact rfl)|(apply OKx_ldB;exact rfl; (apply atP;constructor);exact rfl)|(apply OKx_eql;exact rfl;exact rfl;all_goals (intro _; try (exfalso;omega)))|(apply OKx_fldO;exact rfl;exact rfl)|(apply OKx_boxA;exact rfl;intro _)|(apply OKx_allocA;intro _)|(apply OKx_box1;(conv=>lhs;whnf)<;>exact rfl;exact rfl;intro _)|(apply OKx_stBA; kernel_rfl;exact rfl;exact rfl;exact rfl; (apply atP;constructor);exact rfl;exact rfl;exact rfl))
        all_goals (try (exfalso;omega))
        first | refine bodyQ_r0 ?_ | refine bodyQ_n0 ?_
        exact ⟨bldL b _ v3 (l ++ wrdK i) ++ K, Ent.sub (List.Sublist.append (List.Sublist.refl _) ((((List.Sublist.refl K).cons _).cons _).cons _)), rfl, _, v3, hpr, rfl⟩
      · have hN' : numK (i : Int) = false := by rw [← hi]; exact hN
        have hT' : txtK (i : Int) = true := by rw [← hi]; exact hT
        have hb := byts_len x.text
        have hxt : Value.string x.text = .string (bOf (byts x.text)) := by rw [show bOf (byts x.text) = x.text from bOf_data _]
        rw [hN, hT] at hl
        simp only [Bool.false_eq_true, if_false, if_true, List.nil_append, List.length_append, List.length_cons, List.length_nil] at hl ⊢
        refine SatL.of 72 [] Tryz.func89 (by kernel_rfl) (by kernel_rfl) rfl rfl rfl rfl ?_
        unfold bldL
        simp only [List.cons_append, List.nil_append]
        repeat' (first|(apply OK_seq)|(apply thenQ_n)|(apply OK_region)|(refine OKx_idxAs Tryz.underlying122 rfl rfl (by omega) (by omega) ?_; rw [hi', Nat.zero_add])|(apply OKx_gl; refine OKx_ldRA rfl hpt ?_; rw [kdC_eq, hm, hN', hT'])|(refine OKx_func rfl rfl ?_; refine OKx_ent (Ent.perm (perm32 _ _ _ _ _ _)) ?_)|(refine OKx_sadd7 (a := [32, 34]) (b := byts x.text) (c := 32 :: 34 :: byts x.text) rfl hxt (by simp;omega) rfl ?_)|(refine OKx_sadd7 (a := 32 :: 34 :: byts x.text) (b := [34]) (c := 32 :: 34 :: (byts x.text ++ [34])) rfl rfl (by simp;omega) rfl ?_)|(apply OKx_gc 88;exact rfl; refine OKx_callL (f := 88) rfl rfl (bldW_sat b p v l (bOf (wrdK i)) w0 _ hp (by rw [bOf_size];omega)) ?_; rintro _ _ ⟨rfl, v3, rfl⟩)|(apply OKx_gc 88;exact rfl; refine OKx_callL (f := 88) rfl rfl (bldW_sat b _ v3 (l ++ wrdK i) (bOf (32 :: 34 :: (byts x.text ++ [34]))) w0 _ hpr (by rw [bOf_size]; simp;omega)) ?_; rintro _ _ ⟨rfl, v4, rfl⟩)|(apply OKx_nilK)|(apply OK_block)|(apply blockQ_n)|(apply OK_condT;exact rfl)|(apply OK_condF;exact rfl)|(apply OK_skip)|(apply OKx_assign;(conv=>lhs;whnf)<;>exact rfl)|(apply OKx_ldB;exact rfl; (apply atP;constructor);exact rfl)|(apply OKx_eql;exact rfl;exact rfl;all_goals (intro _; try (exfalso;omega)))|(apply OKx_fldO;exact rfl;exact rfl)|(apply OKx_boxA;exact rfl;intro _)|(apply OKx_allocA;intro _)|(apply OKx_box1;(conv=>lhs;whnf)<;>exact rfl;exact rfl;intro _)|(apply OKx_stBA; kernel_rfl;exact rfl;exact rfl;exact rfl; (apply atP;constructor);exact rfl;exact rfl;exact rfl))
        all_goals (try (exfalso;omega))
        first | refine bodyQ_r0 ?_ | refine bodyQ_n0 ?_
        exact ⟨bldL b _ v4 (l ++ wrdK i ++ (32 :: 34 :: (byts x.text ++ [34]))) ++ K, Ent.sub (List.Sublist.append (List.Sublist.refl _) ((((List.Sublist.refl K).cons _).cons _).cons _)), rfl, _, v4, hpr, by rw [List.append_assoc]⟩
      · have hN' : numK (i : Int) = true := by rw [← hi]; exact hN
        have hT' : txtK (i : Int) = false := by rw [← hi]; exact hT
        rw [hN, hT] at hl
        simp only [Bool.false_eq_true, if_false, if_true, List.append_nil, List.length_append, List.length_cons, List.length_nil] at hl ⊢
        refine SatL.of 72 [] Tryz.func89 (by kernel_rfl) (by kernel_rfl) rfl rfl rfl rfl ?_
        unfold bldL
        simp only [List.cons_append, List.nil_append]
        repeat' (first|(apply OK_seq)|(apply thenQ_n)|(apply OK_region)|(refine OKx_idxAs Tryz.underlying122 rfl rfl (by omega) (by omega) ?_; rw [hi', Nat.zero_add])|(apply OKx_gl; refine OKx_ldRA rfl hpt ?_; rw [kdC_eq, hm, hN', hT'])|(refine OKx_func rfl rfl ?_; refine OKx_ent (Ent.perm (perm32 _ _ _ _ _ _)) ?_)|(apply OKx_gc 88;exact rfl; refine OKx_callL (f := 88) rfl rfl (bldW_sat b p v l (bOf (wrdK i)) w0 _ hp (by rw [bOf_size];omega)) ?_; rintro _ _ ⟨rfl, v3, rfl⟩)|(apply OKx_nilK)|(apply OK_block)|(apply blockQ_n)|(apply OK_condT;exact rfl)|(apply OK_condF;exact rfl)|(apply OK_skip)|(apply OKx_assign;(conv=>lhs;whnf)<;>exact rfl)|(apply OKx_ldB;exact rfl; (apply atP;constructor);exact rfl)|(apply OKx_eql;exact rfl;exact rfl;all_goals (intro _; try (exfalso;omega)))|(apply OKx_fldO;exact rfl;exact rfl)|(apply OKx_boxA;exact rfl;intro _)|(apply OKx_allocA;intro _)|(apply OKx_box1;(conv=>lhs;whnf)<;>exact rfl;exact rfl;intro _)|(apply OKx_stBA; kernel_rfl;exact rfl;exact rfl;exact rfl; (apply atP;constructor);exact rfl;exact rfl;exact rfl))
        all_goals (try (exfalso;omega))
        rename_i gO gX gK _ _
        repeat' (first|(apply OK_seq)|(apply thenQ_n)|(apply OK_region)|(apply OKx_gc 109;exact rfl; refine OKx_callV (f := 109) rfl rfl rfl (fun w1 hp => hit w1 hp.below) ?_)|(refine OKx_sadd7 (a := [32]) (b := Lib.itoa x.num) (c := 32 :: Lib.itoa x.num) rfl rfl (by simp;omega) rfl ?_)|(apply OKx_gc 88;exact rfl; refine OKx_callL (f := 88) rfl rfl (bldW_sat b _ v3 (l ++ wrdK i) (bOf (32 :: Lib.itoa x.num)) w0 _ hpr (by rw [bOf_size]; simp;omega)) ?_; rintro _ _ ⟨rfl, v4, rfl⟩)|(refine OK_rid 16 ?_; refine OK_pureAny 6 3 [0, 1, 2] [.box 24 gX [.int .i64 x.kind, .int .i64 x.num, .string x.text, pv], .box 104 gO [.pointer (some ⟨b, 0, none⟩)]] (id := 16) (by kernel_rfl) (by kernel_rfl) (by kernel_rfl) (by kernel_rfl) (by kernel_rfl) (by kernel_rfl) (by exact Ent.pick [3,4] rfl) (by ((try simp only [pickO, nthO, List.cons_append, List.nil_append]) <;> exact rfl)) ?_)|(apply OKx_nilK)|(apply OK_condF;exact rfl)|(apply OK_skip)|(apply OKx_ldB;exact rfl; (apply atP;constructor);exact rfl)|(apply OKx_fldO;exact rfl;exact rfl)|(refine OKc_step1 (S := [0, 1, 2]) (i1 := 3) (S1 := [0, 1, 2, 3]) (by first | exact Ent.refl _ _ | exact Ent.nil | exact Ent.pick [0, 1] rfl | exact Ent.pick [1, 2] rfl | exact Ent.pick [2, 3] rfl | exact Ent.pick [3, 4] rfl) (by kernel_rfl) (by kernel_rfl) rfl ?_)|(refine OKc_pure (S := [0, 1, 2, 3]) (i := 4) (S1 := [0, 1, 2, 3, 4]) (by kernel_rfl) (by kernel_rfl) rfl ?_)|(refine OKc_step1 (S := [0, 1, 2, 3, 4]) (i1 := 5) (S1 := [0, 1, 2, 3, 4, 5]) (by first | exact Ent.refl _ _ | exact Ent.nil | exact Ent.pick [0, 1] rfl | exact Ent.pick [1, 2] rfl | exact Ent.pick [2, 3] rfl | exact Ent.pick [3, 4] rfl) (by kernel_rfl) (by kernel_rfl) rfl ?_)|(refine OKc_end (S := [0, 1, 2, 3, 4, 5]) (by kernel_rfl) (by first | exact Ent.refl _ _ | exact Ent.nil | exact Ent.pick [0, 1] rfl | exact Ent.pick [1, 2] rfl | exact Ent.pick [2, 3] rfl | exact Ent.pick [3, 4] rfl) ?_))
        first | refine bodyQ_r0 ?_ | refine bodyQ_n0 ?_
        exact ⟨bldL b _ v4 (l ++ wrdK i ++ (32 :: Lib.itoa x.num)) ++ K, Ent.sub (List.Sublist.append (List.Sublist.refl _) ((((List.Sublist.refl K).cons _).cons _).cons _)), rfl, _, v4, hpr, by rw [List.append_assoc]⟩
      · exfalso
        unfold numK at hN
        unfold txtK at hT
        rw [Bool.and_eq_true, decide_eq_true_eq, decide_eq_true_eq] at hN hT
        omega
end Go.Proofs.YthnlnffmmioapaaGreatDoor
namespace Go.Proofs.YthnlnffmmioapaaGreatDoor
open Go.RowKit
theorem ext_getDB {α : Type} (a b : List α) (d : α) (hl : a.length = b.length) (h : ∀ j, j < a.length → a.getD j d = b.getD j d) : a = b := by
  refine List.ext_getElem hl fun j h1 h2 => ?_
  have := h j h1
  rwa [getD_lt _ _ _ h1, getD_lt _ _ _ h2] at this
set_option maxRecDepth 100000 in
set_option maxHeartbeats 4000000 in
theorem equalB_sat (v u : Value) (xs ys : List ByteArray) (w : World) (h : Strs w v xs) (k : Strs w u ys) : SatV Tryz.prog 18 [v, u] w (.bool (decide (xs = ys))) := by
  have hv := h.sl
  have hvb := hv.bound
  have hu := k.sl
  have hub := hu.bound
  by_cases hl : xs.length = ys.length
  rotate_left
  · refine SatL.of 26 [4] Tryz.func18 (by kernel_rfl) (by kernel_rfl) rfl rfl rfl rfl ?_
    repeat' (first|(apply OK_seq)|(apply thenQ_n)|(apply OK_region)|(apply OKx_nilK)|(apply thenQ_r)|(apply OK_condT;exact rfl)|(apply OK_ret)|(apply OKx_move;(conv=>lhs;whnf)<;>exact rfl)|(apply OKx_assign;(conv=>lhs;whnf)<;>exact rfl)|(apply OKx_lenR;(conv=>lhs;whnf)<;>exact rfl;(with_reducible assumption))|(apply OKx_neq;exact rfl;exact rfl;all_goals (intro _; try (exfalso;omega))))
    refine bodyQ_r1 (by ((conv=>lhs;whnf)<;>exact rfl)) ?_
    exact ⟨_, Ent.nil, bool_eq (decide_eq_false (fun e => hl (by rw [e]))).symm, rfl⟩
  refine SatL.of 26 [4] Tryz.func18 (by kernel_rfl) (by kernel_rfl) rfl rfl rfl rfl ?_
  repeat' (first|(apply OK_seq)|(apply thenQ_n)|(apply OK_region)|(apply OKx_nilK)|(apply OK_block)|(apply OK_condF;exact rfl)|(apply OK_skip)|(apply OKx_move;(conv=>lhs;whnf)<;>exact rfl)|(apply OKx_assign;(conv=>lhs;whnf)<;>exact rfl)|(apply OKx_lenR;(conv=>lhs;whnf)<;>exact rfl;(with_reducible assumption))|(apply OKx_neq;exact rfl;exact rfl;all_goals (intro _; try (exfalso;omega))))
  refine OK_loop1 13 [4, 5, 13, 14, 15, 16, 17, 18, 19, 20, 21, 22, 23, 24, 25] (fun m v L => ∃ k : Nat, k + m = xs.length ∧ v = .int .i64 (k : Int) ∧ (∀ j, j < k → xs.getD j ByteArray.empty = ys.getD j ByteArray.empty) ∧ L = []) xs.length _ (Ent.refl _ _) ⟨0, by omega, rfl, fun j hj => absurd hj (by omega), rfl⟩ ?_
  rintro m v' L G ⟨k, hm, rfl, H, rfl⟩
  repeat' (first|(apply OK_seq)|(apply thenQ_n)|(apply OK_region)|(refine OK_rid 6 ?_; refine OK_quiet (id := 6) (by kernel_rfl) (by kernel_rfl) ?_)|(apply OKx_nilK)|(apply OK_block)|(apply blockQ_n)|(apply blockQ_s)|(apply thenQ_e)|(apply thenQ_r)|(apply blockQ_r)|(apply OK_condT;exact rfl)|(apply OK_condF;exact rfl)|(apply OK_skip)|(apply OK_exit)|(apply OK_ret)|(apply OKx_move;(conv=>lhs;whnf)<;>exact rfl)|(apply OKx_assign;(conv=>lhs;whnf)<;>exact rfl)|(apply OKx_ldR;(conv=>lhs;whnf)<;>exact rfl;(with_reducible assumption))|(apply OKx_lss;exact rfl;exact rfl;all_goals (intro _; try (exfalso;omega)))|(apply OKx_sneq;exact rfl;exact rfl; all_goals intro _)|(apply OKx_idxR;(conv=>lhs;whnf)<;>exact rfl;(with_reducible assumption);exact rfl;omega;intro _ _)|(apply OKx_inc;exact rfl;exact rfl;omega))
  · refine bodyQ_r1 (by ((conv=>lhs;whnf)<;>exact rfl)) ?_
    exact ⟨_, Ent.nil, bool_eq (decide_eq_false (fun e => by subst e; simp_all)).symm, rfl⟩
  · refine ⟨by (repeat' (first | refine agree_upd rfl ?_ | exact agree_over | exact agree_refl _ _ | refine agree_over2 rfl ?_)), m - 1, _, by omega, Ent.refl _ _, ?_⟩
    refine ⟨k + 1, by omega, rfl, fun j hj => ?_, rfl⟩
    by_cases hjk : j < k
    · exact H j hjk
    · obtain rfl : j = k := by omega
      assumption
  · refine bodyQ_r1 (by ((conv=>lhs;whnf)<;>exact rfl)) ?_
    exact ⟨_, Ent.nil, bool_eq (decide_eq_true (ext_getDB xs ys _ hl (fun j hj => H j (by omega)))).symm, rfl⟩
set_option maxRecDepth 100000 in
set_option maxHeartbeats 4000000 in
theorem equalF_sat (v u : Value) (xs ys : List ByteArray) (q : ByteArray → ByteArray → Bool) (g : FuncId) (w : World) (h : Strs w v xs) (k : Strs w u ys) (hf : ∀ x ∈ xs, ∀ y ∈ ys, ∀ w1, SatV Tryz.prog g [.string x, .string y] w1 (.bool (q x y))) :
    SatV Tryz.prog 174 [v, u, .func (.func g) #[] #[]] w (.bool (decide (xs.length = ys.length) && (List.range xs.length).all fun i => q (xs.getD i ByteArray.empty) (ys.getD i ByteArray.empty))) := by
  have hv := h.sl
  have hvb := hv.bound
  have hu := k.sl
  have hub := hu.bound
  by_cases hl : xs.length = ys.length
  rotate_left
  · refine SatL.of 32 [6] Tryz.func174 (by kernel_rfl) (by kernel_rfl) rfl rfl rfl rfl ?_
    repeat' (first|(apply OK_seq)|(apply thenQ_n)|(apply OK_region)|(apply OKx_nilK)|(apply thenQ_r)|(apply OK_condT;exact rfl)|(apply OK_ret)|(apply OKx_move;(conv=>lhs;whnf)<;>exact rfl)|(apply OKx_assign;(conv=>lhs;whnf)<;>exact rfl)|(apply OKx_lenR;(conv=>lhs;whnf)<;>exact rfl;(with_reducible assumption))|(apply OKx_neq;exact rfl;exact rfl;all_goals (intro _; try (exfalso;omega))))
    refine bodyQ_r1 (by ((conv=>lhs;whnf)<;>exact rfl)) ?_
    exact ⟨_, Ent.nil, bool_eq (by rw [decide_eq_false hl, Bool.false_and]), rfl⟩
  rw [decide_eq_true hl, Bool.true_and]
  have hf2 : ∀ k, k < xs.length → ∀ w1, SatV Tryz.prog g [.string (xs.getD k ByteArray.empty), .string (ys.getD k ByteArray.empty)] w1 (.bool (q (xs.getD k ByteArray.empty) (ys.getD k ByteArray.empty))) := fun k hk w1 =>
    hf _ (by rw [getD_lt _ _ _ hk]; exact List.getElem_mem hk) _ (by rw [getD_lt _ _ _ (by omega)]; exact List.getElem_mem _) w1
  refine SatL.of 32 [6] Tryz.func174 (by kernel_rfl) (by kernel_rfl) rfl rfl rfl rfl ?_
  repeat' (first|(apply OK_seq)|(apply thenQ_n)|(apply OK_region)|(apply OKx_nilK)|(apply OK_block)|(apply OK_condF;exact rfl)|(apply OK_skip)|(apply OKx_move;(conv=>lhs;whnf)<;>exact rfl)|(apply OKx_assign;(conv=>lhs;whnf)<;>exact rfl)|(apply OKx_lenR;(conv=>lhs;whnf)<;>exact rfl;(with_reducible assumption))|(apply OKx_neq;exact rfl;exact rfl;all_goals (intro _; try (exfalso;omega))))
  refine OK_loop1 17 [6, 7, 8, 9, 17, 18, 19, 20, 21, 22, 23, 24, 25, 26, 27, 28, 29, 30, 31] (fun m v L => ∃ k : Nat, k + m = xs.length ∧ v = .int .i64 (k : Int) ∧ (∀ j, j < k → q (xs.getD j ByteArray.empty) (ys.getD j ByteArray.empty) = true) ∧ L = []) xs.length _ (Ent.refl _ _) ⟨0, by omega, rfl, fun j hj => absurd hj (by omega), rfl⟩ ?_
  rintro m v' L G ⟨k, hm, rfl, H, rfl⟩
  repeat' (first|(apply OK_seq)|(apply thenQ_n)|(apply OK_region)|(refine OKx_callB (f := g) rfl rfl rfl (fun w hp => hf2 k (by omega) w) ?_ ?_ <;> intro hq)|(apply OKx_nilK)|(apply OK_block)|(apply blockQ_n)|(apply blockQ_s)|(apply thenQ_e)|(apply thenQ_r)|(apply blockQ_r)|(apply OK_condT;exact rfl)|(apply OK_condF;exact rfl)|(apply OK_skip)|(apply OK_exit)|(apply OK_ret)|(apply OKx_move;(conv=>lhs;whnf)<;>exact rfl)|(apply OKx_assign;(conv=>lhs;whnf)<;>exact rfl)|(apply OKx_ldR;(conv=>lhs;whnf)<;>exact rfl;(with_reducible assumption))|(apply OKx_lss;exact rfl;exact rfl;all_goals (intro _; try (exfalso;omega)))|(apply OKx_idxR;(conv=>lhs;whnf)<;>exact rfl;(with_reducible assumption);exact rfl;omega;intro _ _)|(apply OKx_inc;exact rfl;exact rfl;omega)|(apply OKx_notT;exact rfl)|(apply OKx_notF;exact rfl))
  all_goals (try (exfalso;omega))
  · refine ⟨by (repeat' (first | refine agree_upd rfl ?_ | exact agree_over | exact agree_refl _ _ | refine agree_over2 rfl ?_)), m - 1, _, by omega, Ent.refl _ _, ?_⟩
    refine ⟨k + 1, by omega, rfl, fun j hj => ?_, rfl⟩
    by_cases hjk : j < k
    · exact H j hjk
    · obtain rfl : j = k := by omega
      exact hq
  · refine bodyQ_r1 (by ((conv=>lhs;whnf)<;>exact rfl)) ?_
    refine ⟨_, Ent.nil, bool_eq ?_, rfl⟩
    rw [eq_comm, Bool.eq_false_iff]
    intro h9
    have := List.all_eq_true.1 h9 k (List.mem_range.2 (by omega))
    rw [hq] at this
    cases this
  · refine bodyQ_r1 (by ((conv=>lhs;whnf)<;>exact rfl)) ?_
    refine ⟨_, Ent.nil, bool_eq ?_, rfl⟩
    rw [eq_comm, List.all_eq_true]
    intro j hj
    exact H j (by rw [List.mem_range] at hj;omega)
end Go.Proofs.YthnlnffmmioapaaGreatDoor
