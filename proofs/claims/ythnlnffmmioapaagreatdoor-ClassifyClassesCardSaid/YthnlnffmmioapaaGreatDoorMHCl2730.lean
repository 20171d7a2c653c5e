/-
  Part 30 of the proof: Qi27, Qj27, Qk27. No statement of the seat is proved here.
-/
import Derived.Test.YthnlnffmmioapaaGreatDoorMHCl2729
namespace Go.Proofs.YthnlnffmmioapaaGreatDoor
open Go.RowKit
def wTab27 : List ByteArray := [⟨#[]⟩, ⟨#[111, 109, 105, 115, 115, 105, 111, 110]⟩, ⟨#[97, 100, 100, 105, 116, 105, 111, 110]⟩, ⟨#[115, 117, 98, 115, 116, 105, 116, 117, 116, 105, 111, 110]⟩, ⟨#[111, 114, 100, 101, 114]⟩, ⟨#[100, 105, 115, 116, 97, 110, 99, 101]⟩, ⟨#[119, 111, 114, 100, 115]⟩, ⟨#[115, 117, 112, 112, 111, 114, 116]⟩, ⟨#[98, 97, 115, 101]⟩, ⟨#[109, 97, 116, 99, 104]⟩, ⟨#[102, 111, 108, 100]⟩, ⟨#[97, 110, 100]⟩, ⟨#[111, 114]⟩, ⟨#[110, 111, 116]⟩]
theorem wTab_at : ∀ i : Nat, i < 14 → (strs wTab27)[i]? = some (.string (bOf (wrdK (i : Int)))) := by
  intro i hi
  match i, hi with
  | 0, _ => rfl
  | 1, _ => rfl
  | 2, _ => rfl
  | 3, _ => rfl
  | 4, _ => rfl
  | 5, _ => rfl
  | 6, _ => rfl
  | 7, _ => rfl
  | 8, _ => rfl
  | 9, _ => rfl
  | 10, _ => rfl
  | 11, _ => rfl
  | 12, _ => rfl
  | 13, _ => rfl
set_option maxRecDepth 100000 in
set_option maxHeartbeats 4000000 in
theorem rWords_sat (w : World) : Sat Tryz.prog 113 [] w (fun u L => ∃ g, u = .slice (some ⟨g, 0, none⟩) 14 14 ∧ L = [.row 9 1 (.slice (some ⟨g, 0, none⟩) 14 14) 14 (strs wTab27)]) := by
  refine SatL.of 2 [0] Tryz.func113 (by kernel_rfl) (by kernel_rfl) rfl rfl rfl rfl ?_
  repeat' (first|(apply OK_seq)|(apply thenQ_n)|(apply OK_region)|(apply OKx_gt; refine OKx_slit (sz := 1) (vs := strs wTab27) (cs := (strs wTab27).map fun v => [v]) (strs wTab27) rfl rfl rfl rfl rfl rfl ?_; intro gW)|(apply OKx_nilK)|(apply OK_ret)|(apply OKx_assign;(conv=>lhs;whnf)<;>exact rfl))
  refine bodyQ_r1 (by ((conv=>lhs;whnf)<;>exact rfl)) ?_
  exact ⟨_, Ent.refl _ _, _, rfl, rfl⟩
def TxtR (l p : List UInt8) (K : List Res) (u : Value) (L : List Res) : Prop := ∃ (q : List UInt8) (a : Option Addr) (c : Nat), q.length ≤ l.length + p.length ∧ (q = l ++ p ∨ 65536 < q.length) ∧ u = .slice a q.length c ∧ L = .row 5 1 (.slice a q.length c) q.length (Lib.byteCells q) :: K
theorem TxtR.mk {l p : List UInt8} {K : List Res} {a : Option Addr} {c n : Nat} {cs : List Value} (q : List UInt8) (hn : n = q.length) (hc : cs = Lib.byteCells q) (h1 : q.length ≤ l.length + p.length) (h2 : q = l ++ p ∨ 65536 < q.length) : TxtR l p K (.slice a n c) (.row 5 1 (.slice a n c) n cs :: K) := by
  subst hn; subst hc
  exact ⟨q, a, c, h1, h2, rfl, rfl⟩
theorem bytes_snoc27 (l : List UInt8) (c : UInt8) : Lib.byteCells l ++ [.int .u8 (c.toNat : Int)] = Lib.byteCells (l ++ [c]) := by simp [Lib.byteCells]
theorem bytes_40 (l : List UInt8) : Lib.byteCells l ++ [.int .u8 40] = Lib.byteCells (l ++ [40]) := bytes_snoc27 l 40
theorem bytes_41 (l : List UInt8) : Lib.byteCells l ++ [.int .u8 41] = Lib.byteCells (l ++ [41]) := bytes_snoc27 l 41
theorem bytes_app27 (l s : List UInt8) : Lib.byteCells l ++ Lib.strCells (bOf s) = Lib.byteCells (l ++ s) := bytes_app l (bOf s)
theorem permT1 (a b A : Res) (K : List Res) : (a :: b :: A :: K).Perm (A :: a :: b :: K) := (List.perm_append_comm (l₁ := [a, b]) (l₂ := [A])).append_right K
theorem permT2 (a b c A : Res) (K : List Res) : (a :: b :: c :: A :: K).Perm (A :: a :: b :: c :: K) := (List.perm_append_comm (l₁ := [a, b, c]) (l₂ := [A])).append_right K
theorem permT0 (a A : Res) (K : List Res) : (a :: A :: K).Perm (A :: a :: K) := List.Perm.swap _ _ _
def Txt1 (x : Cnd) : Prop := ∀ (xv : Value) (a : Option Addr) (c : Nat) (l : List UInt8) (w0 : World) (K : List Res), Exp w0 x xv → TbL w0 → l.length + x.prt.length ≤ 140737488355328 →
  SatL Tryz.prog 95 [.slice a l.length c, xv] w0 (.row 5 1 (.slice a l.length c) l.length (Lib.byteCells l) :: K) (TxtR l x.prt K)
set_option maxRecDepth 100000 in
set_option maxHeartbeats 4000000 in
theorem within_sat (k : Int) (x : Cnd) (hx : Txt1 x) (xv : Value) (a : Option Addr) (c : Nat) (l : List UInt8) (w0 : World) (K : List Res) (hE : Exp w0 x xv) (ht : TbL w0) (hl : l.length + (parW (parK k x.kind) x.prt).length ≤ 140737488355328) :
    SatL Tryz.prog 114 [.slice a l.length c, .int .i64 k, xv] w0 (.row 5 1 (.slice a l.length c) l.length (Lib.byteCells l) :: K) (TxtR l (parW (parK k x.kind) x.prt) K) := by
  have hE0 := hE
  obtain ⟨pv, g, rfl, hs, hP, _⟩ := hE.shape
  obtain ⟨_, ap, cp, rfl, _⟩ := id hP
  cases hpk : parK k x.kind
  · rw [hpk] at hl
    have hw : parW false x.prt = x.prt := rfl
    rw [hw] at hl ⊢
    have h12 : ¬ x.kind = 12 := fun e => by rw [e] at hpk; simp [parK] at hpk
    have h11 : x.kind = 11 → k = 12 := fun e => by
      rw [e] at hpk
      by_cases h : k = 12
      · exact h
      · simp [parK, h] at hpk
    refine SatL.of 29 [6] Tryz.func114 (by kernel_rfl) (by kernel_rfl) rfl rfl rfl rfl ?_
    repeat' (first|(apply OK_seq)|(apply thenQ_n)|(apply OK_region)|(apply OKx_gc 95;exact rfl; refine OKx_ent (Ent.perm (permT0 _ _ _)) ?_; refine OKx_callL (f := 95) rfl rfl (hx _ a c l w0 (_ :: K) hE0 ht hl) ?_; rintro _ _ ⟨q, a2, c2, h1, h2, rfl, rfl⟩)|(apply OKx_nilK)|(apply OK_condF;exact rfl)|(apply OK_skip)|(apply OK_ret)|(apply OKx_move;(conv=>lhs;whnf)<;>exact rfl)|(apply OKx_assign;(conv=>lhs;whnf)<;>exact rfl)|(apply OKx_ldB;exact rfl; (apply atP;constructor);exact rfl)|(apply OKx_eql;exact rfl;exact rfl;all_goals (intro _; try (exfalso;omega)))|(apply OKx_neq;exact rfl;exact rfl;all_goals (intro _; try (exfalso;omega)))|(apply OKx_fldO;exact rfl;exact rfl)|(apply OKx_pickT;exact rfl;(conv=>lhs;whnf)<;>exact rfl)|(apply OKx_pickF;exact rfl;(conv=>lhs;whnf)<;>exact rfl)|(apply OKx_guardT;exact rfl;exact rfl)|(apply OKx_guardF;exact rfl;exact rfl)|(apply OKx_boxA;exact rfl;intro _)|(apply OKx_ldBA;exact rfl; (apply atP;constructor);exact rfl))
    all_goals (try (exfalso;omega))
    all_goals
      refine bodyQ_r1 (by ((conv=>lhs;whnf)<;>exact rfl)) ?_
      exact ⟨_, Ent.sub ((List.sublist_cons_self _ _).cons_cons _), TxtR.mk q rfl rfl h1 h2⟩
  · rw [hpk] at hl
    have hw : parW true x.prt = 40 :: (x.prt ++ [41]) := rfl
    rw [hw] at hl ⊢
    have hk' : x.kind = 12 ∨ (x.kind = 11 ∧ k ≠ 12) := by
      unfold parK at hpk
      simpa using hpk
    have e1 : (40 :: (x.prt ++ [41])).length = x.prt.length + 2 := by simp
    rw [e1] at hl
    have e2 : (l ++ [(40 : UInt8)]).length = l.length + 1 := by simp
    have hx2 := fun a2 c2 K2 => hx (.agg #[.int .i64 x.kind, .int .i64 x.num, .string x.text, .slice ap x.parts.length cp]) a2 c2 (l ++ [40]) w0 K2 hE0 ht (by omega)
    rw [e2, ← bytes_40] at hx2
    refine SatL.of 29 [6] Tryz.func114 (by kernel_rfl) (by kernel_rfl) rfl rfl rfl rfl ?_
    repeat' (first|(apply OK_seq)|(apply thenQ_n)|(apply OK_region)|(apply OKx_boxA;exact rfl; intro gx) | (first|(refine OKx_append1 (y := .int .u8 40) 2 0 rfl rfl rfl rfl rfl (by omega) (by omega) ?_; intro gA cA; simp only [List.set_cons_succ, List.set_cons_zero])|(refine OKx_append1 (y := .int .u8 40) 3 0 rfl rfl rfl rfl rfl (by omega) (by omega) ?_; intro gA cA; simp only [List.set_cons_succ, List.set_cons_zero])|(refine OKx_append1 (y := .int .u8 40) 3 1 rfl rfl rfl rfl rfl (by omega) (by omega) ?_; intro gA cA; simp only [List.set_cons_succ, List.set_cons_zero]))|(apply OKx_gc 95;exact rfl; first|(refine OKx_ent (Ent.perm (permT1 _ _ _ _)) ?_; refine OKx_callL (f := 95) rfl rfl (hx2 _ _ _) ?_; rintro _ _ ⟨q, a2, c2, h1, h2, rfl, rfl⟩)|(refine OKx_ent (Ent.perm (permT2 _ _ _ _ _)) ?_; refine OKx_callL (f := 95) rfl rfl (hx2 _ _ _) ?_; rintro _ _ ⟨q, a2, c2, h1, h2, rfl, rfl⟩)) | (first|(refine OKx_append1 (y := .int .u8 41) 1 0 rfl rfl rfl rfl rfl (by omega) (by omega) ?_; intro gB cB; simp only [List.set_cons_succ, List.set_cons_zero])|(refine OKx_append1 (y := .int .u8 41) 0 1 rfl rfl rfl rfl rfl (by omega) (by omega) ?_; intro gB cB; simp only [List.set_cons_succ, List.set_cons_zero])|(refine OKx_append1 (y := .int .u8 41) 0 2 rfl rfl rfl rfl rfl (by omega) (by omega) ?_; intro gB cB; simp only [List.set_cons_succ, List.set_cons_zero]))|(refine OK_rid 2 ?_; refine OK_pureAny 8 6 [0, 3] [.box 24 gx [.int .i64 x.kind, .int .i64 x.num, .string x.text, .slice ap x.parts.length cp]] (id := 2) (by kernel_rfl) (by kernel_rfl) (by kernel_rfl) (by kernel_rfl) (by kernel_rfl) (by kernel_rfl) (by exact Ent.pick [0] rfl) (by ((try simp only [pickO, nthO, List.cons_append, List.nil_append]) <;> exact rfl)) ?_)|(apply OKx_nilK)|(apply thenQ_r)|(apply OK_condT;exact rfl)|(apply OK_ret)|(apply OKx_move;(conv=>lhs;whnf)<;>exact rfl)|(apply OKx_assign;(conv=>lhs;whnf)<;>exact rfl)|(apply OKx_ldB;exact rfl; (apply atP;constructor);exact rfl)|(apply OKx_eql;exact rfl;exact rfl;all_goals (intro _; try (exfalso;omega)))|(apply OKx_neq;exact rfl;exact rfl;all_goals (intro _; try (exfalso;omega)))|(apply OKx_fldO;exact rfl;exact rfl)|(apply OKx_pickT;exact rfl;(conv=>lhs;whnf)<;>exact rfl)|(apply OKx_pickF;exact rfl;(conv=>lhs;whnf)<;>exact rfl)|(apply OKx_guardT;exact rfl;exact rfl)|(apply OKx_guardF;exact rfl;exact rfl)|(apply OKx_guardU;exact rfl;exact rfl)|(apply OKx_ldBA;exact rfl; (apply atP;constructor);exact rfl)|(apply OKx_slit1;(conv=>lhs;whnf)<;>exact rfl;exact rfl;intro _)|(refine OKc_step2 (S := [0, 3]) (i1 := 1) (S1 := [0, 1, 3]) (i2 := 5) (S2 := [0, 3, 5]) (by first | exact Ent.refl _ _ | exact Ent.nil | exact Ent.pick [0] rfl | exact Ent.pick [1] rfl | exact Ent.pick [2] rfl | exact Ent.pick [3] rfl) (by kernel_rfl) (by kernel_rfl) (by kernel_rfl) rfl rfl ?_ ?_)|(refine OKc_step1 (S := [0, 3, 5]) (i1 := 1) (S1 := [0, 1, 3, 5]) (by first | exact Ent.refl _ _ | exact Ent.nil | exact Ent.pick [0] rfl | exact Ent.pick [1] rfl | exact Ent.pick [2] rfl | exact Ent.pick [3] rfl) (by kernel_rfl) (by kernel_rfl) rfl ?_)|(refine OKc_step1 (S := [0, 1, 3, 5]) (i1 := 2) (S1 := [0, 1, 2, 3, 5]) (by first | exact Ent.refl _ _ | exact Ent.nil | exact Ent.pick [0] rfl | exact Ent.pick [1] rfl | exact Ent.pick [2] rfl | exact Ent.pick [3] rfl) (by kernel_rfl) (by kernel_rfl) rfl ?_)|(refine OKc_step1 (S := [0, 1, 2, 3, 5]) (i1 := 4) (S1 := [0, 1, 2, 3, 4, 5]) (by first | exact Ent.refl _ _ | exact Ent.nil | exact Ent.pick [0] rfl | exact Ent.pick [1] rfl | exact Ent.pick [2] rfl | exact Ent.pick [3] rfl) (by kernel_rfl) (by kernel_rfl) rfl ?_)|(refine OKc_step1 (S := [0, 1, 2, 3, 4, 5]) (i1 := 6) (S1 := [0, 1, 2, 3, 4, 5, 6]) (by first | exact Ent.refl _ _ | exact Ent.nil | exact Ent.pick [0] rfl | exact Ent.pick [1] rfl | exact Ent.pick [2] rfl | exact Ent.pick [3] rfl) (by kernel_rfl) (by kernel_rfl) rfl ?_)|(refine OKc_pure (S := [0, 1, 2, 3, 4, 5, 6]) (i := 7) (S1 := [0, 1, 2, 3, 4, 5, 6, 7]) (by kernel_rfl) (by kernel_rfl) rfl ?_)|(refine OKc_end (S := [0, 1, 2, 3, 4, 5, 6, 7]) (by kernel_rfl) (by first | exact Ent.refl _ _ | exact Ent.nil | exact Ent.pick [0] rfl | exact Ent.pick [1] rfl | exact Ent.pick [2] rfl | exact Ent.pick [3] rfl) ?_)|(refine OKc_step2 (S := [0, 1, 3]) (i1 := 2) (S1 := [0, 1, 2, 3]) (i2 := 5) (S2 := [0, 1, 3, 5]) (by first | exact Ent.refl _ _ | exact Ent.nil | exact Ent.pick [0] rfl | exact Ent.pick [1] rfl | exact Ent.pick [2] rfl | exact Ent.pick [3] rfl) (by kernel_rfl) (by kernel_rfl) (by kernel_rfl) rfl rfl ?_ ?_)|(refine OKc_step2 (S := [0, 1, 2, 3]) (i1 := 4) (S1 := [0, 1, 2, 3, 4]) (i2 := 5) (S2 := [0, 1, 2, 3, 5]) (by first | exact Ent.refl _ _ | exact Ent.nil | exact Ent.pick [0] rfl | exact Ent.pick [1] rfl | exact Ent.pick [2] rfl | exact Ent.pick [3] rfl) (by kernel_rfl) (by kernel_rfl) (by kernel_rfl) rfl rfl ?_ ?_)|(refine OKc_step1 (S := [0, 1, 2, 3, 4]) (i1 := 5) (S1 := [0, 1, 2, 3, 4, 5]) (by first | exact Ent.refl _ _ | exact Ent.nil | exact Ent.pick [0] rfl | exact Ent.pick [1] rfl | exact Ent.pick [2] rfl | exact Ent.pick [3] rfl) (by kernel_rfl) (by kernel_rfl) rfl ?_))
    all_goals (try (exfalso;omega))
    all_goals
      refine bodyQ_r1 (by ((conv=>lhs;whnf)<;>exact rfl)) ?_
      refine ⟨.row 5 1 (.slice (some ⟨gB, 0, none⟩) (q.length + 1) cB) (q.length + 1) (Lib.byteCells q ++ [.int .u8 41]) :: K, Ent.sub (by first | exact (((List.Sublist.refl K).cons _).cons _).cons_cons _ |>.cons _ | exact ((((List.Sublist.refl K).cons _).cons _).cons _).cons_cons _), TxtR.mk (q ++ [41]) (by simp) (bytes_41 q) (by rw [e1, List.length_append]; simp;omega) ?_⟩
      rcases h2 with h2 | h2
      · exact .inl (by rw [h2]; simp)
      · exact .inr (by rw [List.length_append];omega)
end Go.Proofs.YthnlnffmmioapaaGreatDoor
namespace Go.Proofs.YthnlnffmmioapaaGreatDoor
open Go.RowKit
set_option maxRecDepth 100000 in
set_option maxHeartbeats 4000000 in
theorem text_sat : ∀ (d : Nat) (x : Cnd), x.depth ≤ d → x.own = true → Txt1 x
  | 0, x, hd, _ => by have := depth_pos x;omega
  | d + 1, x, hd, ho => by
    intro xv a c l w0 K hE ht hl
    obtain ⟨pv, g, rfl, hs, hP, hEs⟩ := hE.shape
    obtain ⟨_, ap, cp, rfl, _⟩ := id hP
    have hon := ho
    rw [own_eq, Bool.and_eq_true, List.all_eq_true] at hon
    obtain ⟨hnd, hon⟩ := hon
    obtain ⟨n1, n2, n3, n4, n5, n6, n7, n8, n9⟩ := node_iff.1 hnd
    have ih : ∀ j, (hj : j < x.parts.length) → Txt1 x.parts[j] := fun j hj => text_sat d _ (by have := depth_in (List.getElem_mem hj);omega) (hon _ (List.getElem_mem hj))
    by_cases hlong : 65536 < l.length
    · clear ih hEs
      refine SatL.of 89 [4] Tryz.func95 (by kernel_rfl) (by kernel_rfl) rfl rfl rfl rfl ?_
      repeat' (first|(apply OK_seq)|(apply thenQ_n)|(apply OK_region)|(apply OKx_nilK)|(apply thenQ_r)|(apply OK_condT;exact rfl)|(apply OK_ret)|(apply OKx_move;(conv=>lhs;whnf)<;>exact rfl)|(apply OKx_assign;(conv=>lhs;whnf)<;>exact rfl)|(apply OKx_len;exact rfl)|(apply OKx_gtr;exact rfl;exact rfl;all_goals (intro _; try (exfalso;omega)))|(apply OKx_boxA;exact rfl;intro _))
      all_goals (try (exfalso;omega))
      refine bodyQ_r1 (by ((conv=>lhs;whnf)<;>exact rfl)) ?_
      exact ⟨_, Ent.sub (List.sublist_cons_self _ _), TxtR.mk l rfl rfl (by omega) (.inr hlong)⟩
    obtain ⟨i, hi⟩ := Int.eq_ofNat_of_zero_le (show 0 ≤ x.kind by omega)
    have hi14 : i < 14 := by omega
    have hki : Value.int .i64 x.kind = .int .i64 (i : Int) := by rw [hi]
    have hprt := prt_eq x
    have hwl := wrdK_len x.kind
    have hwa := wTab_at i hi14
    rw [← hi] at hwa
    have hW := rWords_sat
    have hN1 := fun w1 => rnum_sat x.kind w1
    have hT1 := fun w1 => rtxt_sat x.kind w1
    by_cases h11 : 11 ≤ x.kind
    · have hNf : numK x.kind = false := by cases h : numK x.kind with | false => rfl | true => exact absurd (num_kind h) (by omega)
      have hTf : txtK x.kind = false := by cases h : txtK x.kind with | false => rfl | true => exact absurd (txt_kind h) (by omega)
      rw [hNf] at hN1
      rw [hTf] at hT1
      rw [if_pos h11] at hprt
      by_cases h13 : x.kind = 13
      · rw [if_pos h13] at hprt
        have e1 : lstK 13 = 1 := rfl
        have e2 : mstK 13 = 1 := rfl
        have hpl : x.parts.length = 1 := by
          rw [h13] at n8 n9
          have := n9 (by omega)
          omega
        obtain ⟨y, hy⟩ := List.length_eq_one_iff.1 hpl
        have hy0 : x.parts[0]'(by omega) = y := by simp [hy]
        have hF : Cnd.prtF x.kind x.parts = parW (parK x.kind y.kind) y.prt := by rw [hy]; rfl
        have hEj := hEs 0 (by omega)
        have ih0 := ih 0 (by omega)
        rw [hy0] at hEj ih0
        have hw13 : wrdK x.kind = [110, 111, 116] := by rw [h13]; rfl
        rw [hF, hw13] at hprt
        have hpl2 : x.prt.length = 4 + (parW (parK x.kind y.kind) y.prt).length := by rw [hprt]; simp;omega
        have e4 : (l ++ [(110 : UInt8), 111, 116, 32]).length = l.length + 4 := by simp
        have hx2 := fun a2 c2 K2 => within_sat x.kind y ih0 _ a2 c2 (l ++ [110, 111, 116, 32]) w0 K2 hEj ht (by rw [e4];omega)
        rw [e4, ← bytes_app27] at hx2
        clear ih hEs
        refine SatL.of 89 [4] Tryz.func95 (by kernel_rfl) (by kernel_rfl) rfl rfl rfl rfl ?_
        repeat' (first|(apply OK_seq)|(apply thenQ_n)|(apply OK_region)|(apply OKx_boxA;exact rfl; intro gx)|(apply OKx_gc 113;exact rfl; refine OKx_call (f := 113) rfl rfl (fun w1 hp => hW w1) ?_; rintro _ _ ⟨gW, rfl, rfl⟩; rw [List.cons_append, List.nil_append])|(apply OKx_gi; refine OKx_idxOn (i := i) rfl hki (by omega) ?_)|(apply OKx_gl; refine OKx_ldW 0 rfl rfl (by omega) (by rw [Nat.mul_one]; exact hwa) ?_)|(apply OKx_gc 111;exact rfl; refine OKx_callV (f := 111) rfl rfl rfl (fun w1 hp => hN1 w1) ?_)|(apply OKx_gc 112;exact rfl; refine OKx_callV (f := 112) rfl rfl rfl (fun w1 hp => hT1 w1) ?_)|(apply OKx_gi; refine OKx_idxR2 (i := 0) rfl hP rfl (by omega) ?_; intro pp hpp)|(apply OKx_gl; refine OKx_ldRA rfl hpp ?_)|(apply OKx_gb; refine OKx_appStr (sb := bOf [110, 111, 116, 32]) 2 rfl rfl rfl (by rw [bOf_size]; simp;omega) ?_; intro a2 c2; simp only [List.set_cons_succ, List.set_cons_zero])|(apply OKx_gc 114;exact rfl; refine OKx_ent (Ent.perm (permT1 _ _ _ _)) ?_; refine OKx_callL (f := 114) rfl rfl (hx2 _ _ _) ?_; rintro _ _ ⟨q, a3, c3, h1, h2, rfl, rfl⟩)|(refine OK_rid 3 ?_; refine OK_mix [1, 2] [] [] [0, 3, 4, 5] [.box 24 gx [.int .i64 x.kind, .int .i64 x.num, .string x.text, .slice ap x.parts.length cp]] (id := 3) (by kernel_rfl) (by kernel_rfl) rfl (by first | exact Ent.pick [0] rfl) (by ((try simp only [pickO, nthO, List.cons_append, List.nil_append]) <;> exact rfl)) (by ((try simp only [pickO]) <;> exact rfl)) (by ((try simp only [pickO]) <;> exact rfl)) (by ((try simp only [pickO, nthO, List.cons_append, List.nil_append]) <;> exact rfl)) ?_)|(refine OK_rid 9 ?_; refine OK_mix [2, 3, 4, 5, 6, 7] [0] [] [1, 8, 9] [.box 24 gx [.int .i64 x.kind, .int .i64 x.num, .string x.text, .slice ap x.parts.length cp]] (id := 9) (by kernel_rfl) (by kernel_rfl) rfl (by first | exact Ent.pick [1] rfl) (by ((try simp only [pickO, nthO, List.cons_append, List.nil_append]) <;> exact rfl)) (by ((try simp only [pickO, nthO, List.cons_append, List.nil_append]) <;> exact rfl)) (by ((try simp only [pickO]) <;> exact rfl)) (by ((try simp only [pickO, nthO, List.cons_append, List.nil_append]) <;> exact rfl)) ?_)|(apply OKx_nilK)|(apply OK_block)|(apply thenQ_r)|(apply blockQ_r)|(apply OK_condT;exact rfl)|(apply OK_condF;exact rfl)|(apply OK_skip)|(apply OK_ret)|(apply OKx_move;(conv=>lhs;whnf)<;>exact rfl)|(apply OKx_assign;(conv=>lhs;whnf)<;>exact rfl)|(apply OKx_ldB;exact rfl; (apply atP;constructor);exact rfl)|(apply OKx_len;exact rfl)|(apply OKx_gtr;exact rfl;exact rfl;all_goals (intro _; try (exfalso;omega)))|(apply OKx_eql;exact rfl;exact rfl;all_goals (intro _; try (exfalso;omega)))|(apply OKx_fldO;exact rfl;exact rfl))
        all_goals (try (exfalso;omega))
        all_goals
          refine bodyQ_r1 (by ((conv=>lhs;whnf)<;>exact rfl)) ?_
          refine ⟨.row 5 1 (.slice a3 q.length c3) q.length (Lib.byteCells q) :: K, Ent.sub ((((List.Sublist.refl K).cons _).cons _).cons_cons _), TxtR.mk q rfl rfl (by rw [e4] at h1;omega) ?_⟩
          rcases h2 with h2 | h2
          · exact .inl (by rw [h2, hprt]; simp)
          · exact .inr h2
      · rw [if_neg h13] at hprt
        have hle := prtJ_le x.kind x.parts
        have hst := prtJ_step x.kind x.parts
        have hN := hP.1
        rw [hprt] at hl ⊢
        refine SatL.of 89 [4] Tryz.func95 (by kernel_rfl) (by kernel_rfl) rfl rfl rfl rfl ?_
        repeat' (first|(apply OK_seq)|(apply thenQ_n)|(apply OK_region)|(apply OKx_boxA;exact rfl; intro gx)|(apply OKx_gc 113;exact rfl; refine OKx_call (f := 113) rfl rfl (fun w1 hp => hW w1) ?_; rintro _ _ ⟨gW, rfl, rfl⟩; rw [List.cons_append, List.nil_append])|(apply OKx_gi; refine OKx_idxOn (i := i) rfl hki (by omega) ?_)|(apply OKx_gl; refine OKx_ldW 0 rfl rfl (by omega) (by rw [Nat.mul_one]; exact hwa) ?_)|(apply OKx_gc 111;exact rfl; refine OKx_callV (f := 111) rfl rfl rfl (fun w1 hp => hN1 w1) ?_)|(apply OKx_gc 112;exact rfl; refine OKx_callV (f := 112) rfl rfl rfl (fun w1 hp => hT1 w1) ?_)|(refine OK_rid 3 ?_; refine OK_mix [1, 2] [] [] [0, 3, 4, 5] [.box 24 gx [.int .i64 x.kind, .int .i64 x.num, .string x.text, .slice ap x.parts.length cp]] (id := 3) (by kernel_rfl) (by kernel_rfl) rfl (by first | exact Ent.pick [0] rfl) (by ((try simp only [pickO, nthO, List.cons_append, List.nil_append]) <;> exact rfl)) (by ((try simp only [pickO]) <;> exact rfl)) (by ((try simp only [pickO]) <;> exact rfl)) (by ((try simp only [pickO, nthO, List.cons_append, List.nil_append]) <;> exact rfl)) ?_)|(apply OKx_nilK)|(apply OK_block)|(apply OK_condT;exact rfl)|(apply OK_condF;exact rfl)|(apply OK_skip)|(apply OKx_move;(conv=>lhs;whnf)<;>exact rfl)|(apply OKx_assign;(conv=>lhs;whnf)<;>exact rfl)|(apply OKx_ldB;exact rfl; (apply atP;constructor);exact rfl)|(apply OKx_len;exact rfl)|(apply OKx_gtr;exact rfl;exact rfl;all_goals (intro _; try (exfalso;omega)))|(apply OKx_eql;exact rfl;exact rfl;all_goals (intro _; try (exfalso;omega)))|(apply OKx_fldO;exact rfl;exact rfl)|(apply OKx_pickT;exact rfl;(conv=>lhs;whnf)<;>exact rfl)|(apply OKx_pickF;exact rfl;(conv=>lhs;whnf)<;>exact rfl)|(apply OKx_guardT;exact rfl;exact rfl)|(apply OKx_guardF;exact rfl;exact rfl))
        all_goals (try (exfalso;omega))
        all_goals
          refine OK_loop2 0 6 [0, 6, 62, 63, 64, 65, 66, 67, 68, 69, 70, 71, 72, 73, 74, 75, 76, 77, 78, 79, 80, 81, 82, 83, 84] (fun m v0 v6 L => ∃ (j : Nat) (q : List UInt8) (a2 : Option Addr) (c2 : Nat), j + m = x.parts.length ∧ v6 = .int .i64 (j : Int) ∧ v0 = .slice a2 q.length c2 ∧ q.length ≤ l.length + (Cnd.prtJ x.kind (x.parts.take j)).length ∧ (q = l ++ Cnd.prtJ x.kind (x.parts.take j) ∨ 65536 < q.length) ∧ L = .row 5 1 (.slice a2 q.length c2) q.length (Lib.byteCells q) :: .box 24 gx [.int .i64 x.kind, .int .i64 x.num, .string x.text, .slice ap x.parts.length cp] :: K) x.parts.length _ (Ent.sub (((List.Sublist.refl K).cons_cons _ |>.cons_cons _).cons _ |> fun h => h) |>.trans (Ent.perm (List.Perm.swap _ _ _))) ⟨0, l, a, c, by omega, rfl, rfl, by omega, .inl (by simp [Cnd.prtJ]), rfl⟩ ?_
          rintro m v0 v6 L G ⟨j, q, a2, c2, hm, rfl, rfl, hq1, hq2, rfl⟩
          by_cases hj : j < x.parts.length
          · have hst := hst j hj
            have hl1 := hle (j + 1)
            rw [hst, List.length_append] at hl1
            obtain ⟨pvj, gj, hej, hsj, hPj, _⟩ := (hEs j hj).shape
            obtain ⟨_, aj, cj, rfl, _⟩ := id hPj
            have heq : ((List.range 4).map (g j)).toArray = #[.int .i64 x.parts[j].kind, .int .i64 x.parts[j].num, .string x.parts[j].text, .slice aj x.parts[j].parts.length cj] := Value.agg.inj hej
            have hEj := hEs j hj
            rw [hej] at hEj
            have hprj : addP x.kind j x.parts[j] = (if j = 0 then [] else 32 :: (wrdK x.kind ++ [32])) ++ parW (parK x.kind x.parts[j].kind) x.parts[j].prt := rfl
            by_cases hj0 : j = 0
            · subst hj0
              rw [if_pos rfl, List.nil_append] at hprj
              rw [hprj] at hst hl1
              have hx2 := fun K2 => within_sat x.kind x.parts[0] (ih 0 hj) _ a2 c2 q w0 K2 hEj ht (by omega)
              repeat' (first|(apply OK_seq)|(apply thenQ_n)|(apply OK_region)|(apply OKx_gi; refine OKx_idxR2 (i := 0) rfl hP rfl hj ?_; intro pp hpp)|(apply OKx_gl; refine OKx_ldRA rfl hpp ?_; rw [heq])|(apply OKx_gc 114;exact rfl; refine OKx_callL (f := 114) rfl rfl (hx2 _) ?_; rintro _ _ ⟨q3, a3, c3, h1, h2, rfl, rfl⟩)|(refine OK_rid 16 ?_; refine OK_mix [1, 2, 3, 4, 5, 6, 7] [0] [] [8, 9] [.box 24 gx [.int .i64 x.kind, .int .i64 x.num, .string x.text, .slice ap x.parts.length cp]] (id := 16) (by kernel_rfl) (by kernel_rfl) rfl (by first | exact Ent.pick [1] rfl) (by ((try simp only [pickO, nthO, List.cons_append, List.nil_append]) <;> exact rfl)) (by ((try simp only [pickO, nthO, List.cons_append, List.nil_append]) <;> exact rfl)) (by ((try simp only [pickO]) <;> exact rfl)) (by ((try simp only [pickO, nthO, List.cons_append, List.nil_append]) <;> exact rfl)) ?_)|(apply OKx_nilK)|(apply OK_block)|(apply blockQ_n)|(apply OK_condT;exact rfl)|(apply OK_condF;exact rfl)|(apply OK_skip)|(apply OKx_move;(conv=>lhs;whnf)<;>exact rfl)|(apply OKx_assign;(conv=>lhs;whnf)<;>exact rfl)|(apply OKx_ldB;exact rfl; (apply atP;constructor);exact rfl)|(apply OKx_len;exact rfl)|(apply OKx_lss;exact rfl;exact rfl;all_goals (intro _; try (exfalso;omega)))|(apply OKx_gtr;exact rfl;exact rfl;all_goals (intro _; try (exfalso;omega)))|(apply OKx_fldO;exact rfl;exact rfl)|(apply OKx_inc;exact rfl;exact rfl;omega))
              all_goals (try (exfalso;omega))
              refine ⟨by (repeat' (first | refine agree_upd rfl ?_ | exact agree_over | exact agree_refl _ _ | refine agree_over2 rfl ?_)), m - 1, _, by omega, Ent.refl _ _, ?_⟩
              refine ⟨1, q3, a3, c3, by omega, rfl, rfl, by rw [hst, List.length_append];omega, ?_, rfl⟩
              rcases h2 with h2 | h2
              · rcases hq2 with hq2 | hq2
                · exact .inl (by rw [h2, hq2, hst, List.append_assoc])
                · exact .inr (by rw [h2, List.length_append];omega)
              · exact .inr h2
            · rw [if_neg hj0] at hprj
              rw [hprj, List.length_append, List.length_cons, List.length_append] at hl1
              have hl2 : ([32] : List UInt8).length = 1 := rfl
              have e4 : (q ++ (32 :: (wrdK x.kind ++ [32]))).length = q.length + ((wrdK x.kind).length + 2) := by simp
              have hx2 := fun a4 c4 K2 => within_sat x.kind x.parts[j] (ih j hj) _ a4 c4 (q ++ (32 :: (wrdK x.kind ++ [32]))) w0 K2 hEj ht (by rw [e4];omega)
              rw [e4, ← bytes_app27] at hx2
              have ez : (bOf (32 :: (wrdK x.kind ++ [32]))).size = (wrdK x.kind).length + 2 := by rw [bOf_size]; simp
              rw [← ez] at hx2
              repeat' (first|(apply OK_seq)|(apply thenQ_n)|(apply OK_region)|(apply OKx_gi; refine OKx_idxR2 (i := j) rfl hP rfl hj ?_; intro pp hpp)|(apply OKx_gl; refine OKx_ldRA rfl hpp ?_; rw [heq])|(refine OKx_sadd7 (a := [32]) (b := wrdK x.kind) (c := 32 :: wrdK x.kind) rfl rfl (by simp;omega) rfl ?_)|(refine OKx_sadd7 (a := 32 :: wrdK x.kind) (b := [32]) (c := 32 :: (wrdK x.kind ++ [32])) rfl rfl (by simp;omega) rfl ?_)|(apply OKx_gb; refine OKx_appStr (sb := bOf (32 :: (wrdK x.kind ++ [32]))) 0 rfl rfl rfl (by rw [ez];omega) ?_; intro a4 c4; simp only [List.set_cons_zero])|(apply OKx_gc 114;exact rfl; refine OKx_callL (f := 114) rfl rfl (hx2 _ _ _) ?_; rintro _ _ ⟨q3, a3, c3, h1, h2, rfl, rfl⟩)|(refine OK_rid 16 ?_; refine OK_mix [1, 2, 3, 4, 5, 6, 7] [0] [] [8, 9] [.box 24 gx [.int .i64 x.kind, .int .i64 x.num, .string x.text, .slice ap x.parts.length cp]] (id := 16) (by kernel_rfl) (by kernel_rfl) rfl (by first | exact Ent.pick [1] rfl) (by ((try simp only [pickO, nthO, List.cons_append, List.nil_append]) <;> exact rfl)) (by ((try simp only [pickO, nthO, List.cons_append, List.nil_append]) <;> exact rfl)) (by ((try simp only [pickO]) <;> exact rfl)) (by ((try simp only [pickO, nthO, List.cons_append, List.nil_append]) <;> exact rfl)) ?_)|(apply OKx_nilK)|(apply OK_block)|(apply blockQ_n)|(apply OK_condT;exact rfl)|(apply OK_skip)|(apply OKx_move;(conv=>lhs;whnf)<;>exact rfl)|(apply OKx_assign;(conv=>lhs;whnf)<;>exact rfl)|(apply OKx_ldB;exact rfl; (apply atP;constructor);exact rfl)|(apply OKx_len;exact rfl)|(apply OKx_lss;exact rfl;exact rfl;all_goals (intro _; try (exfalso;omega)))|(apply OKx_gtr;exact rfl;exact rfl;all_goals (intro _; try (exfalso;omega)))|(apply OKx_fldO;exact rfl;exact rfl)|(apply OKx_inc;exact rfl;exact rfl;omega))
              all_goals (try (exfalso;omega))
              refine ⟨by (repeat' (first | refine agree_upd rfl ?_ | exact agree_over | exact agree_refl _ _ | refine agree_over2 rfl ?_)), m - 1, _, by omega, Ent.refl _ _, ?_⟩
              rw [e4] at h1
              refine ⟨j + 1, q3, a3, c3, by omega, rfl, rfl, by rw [hst, hprj, List.length_append, List.length_append]; simp;omega, ?_, rfl⟩
              rcases h2 with h2 | h2
              · rcases hq2 with hq2 | hq2
                · exact .inl (by rw [h2, hq2, hst, hprj]; simp only [List.append_assoc])
                · exact .inr (by rw [h2, List.length_append, List.length_append];omega)
              · exact .inr h2
          · obtain rfl : j = x.parts.length := by omega
            rw [List.take_length] at hq1 hq2
            repeat' (first|(apply OK_seq)|(apply thenQ_n)|(apply OK_region)|(apply OKx_nilK)|(apply blockQ_s)|(apply thenQ_e)|(apply thenQ_r)|(apply blockQ_r)|(apply OK_condF;exact rfl)|(apply OK_exit)|(apply OK_ret)|(apply OKx_move;(conv=>lhs;whnf)<;>exact rfl)|(apply OKx_assign;(conv=>lhs;whnf)<;>exact rfl)|(apply OKx_ldB;exact rfl; (apply atP;constructor);exact rfl)|(apply OKx_len;exact rfl)|(apply OKx_lss;exact rfl;exact rfl;all_goals (intro _; try (exfalso;omega)))|(apply OKx_fldO;exact rfl;exact rfl))
            all_goals (try (exfalso;omega))
            refine bodyQ_r1 (by ((conv=>lhs;whnf)<;>exact rfl)) ?_
            exact ⟨_, Ent.sub ((List.sublist_cons_self _ _).cons_cons _), TxtR.mk q rfl rfl hq1 hq2⟩
    · rw [if_neg h11] at hprt
      have hit := fun w1 (h : Below w0.heap.size w0 w1) => itoa_sat x.num w1 (ht.below h) (by omega) (by omega)
      have hb := byts_len x.text
      have hxt : Value.string x.text = .string (bOf (byts x.text)) := by rw [show bOf (byts x.text) = x.text from bOf_data _]
      clear ih hEs
      cases hN : numK x.kind
      · cases hT : txtK x.kind
        · rw [hN, hT] at hprt
          simp only [Bool.false_eq_true, if_false, List.append_nil] at hprt
          rw [hN] at hN1
          rw [hT] at hT1
          rw [hprt] at hl ⊢
          refine SatL.of 89 [4] Tryz.func95 (by kernel_rfl) (by kernel_rfl) rfl rfl rfl rfl ?_
          repeat' (first|(apply OK_seq)|(apply thenQ_n)|(apply OK_region)|(apply OKx_boxA;exact rfl; intro gx)|(apply OKx_gc 113;exact rfl; refine OKx_call (f := 113) rfl rfl (fun w1 hp => hW w1) ?_; rintro _ _ ⟨gW, rfl, rfl⟩; rw [List.cons_append, List.nil_append])|(apply OKx_gi; refine OKx_idxOn (i := i) rfl hki (by omega) ?_)|(apply OKx_gl; refine OKx_ldW 0 rfl rfl (by omega) (by rw [Nat.mul_one]; exact hwa) ?_)|(apply OKx_gc 111;exact rfl; refine OKx_callV (f := 111) rfl rfl rfl (fun w1 hp => hN1 w1) ?_)|(apply OKx_gc 112;exact rfl; refine OKx_callV (f := 112) rfl rfl rfl (fun w1 hp => hT1 w1) ?_)|(apply OKx_gb; refine OKx_appStr (sb := bOf (wrdK x.kind)) 2 rfl rfl rfl (by rw [bOf_size];omega) ?_; intro a2 c2; simp only [List.set_cons_succ, List.set_cons_zero])|(refine OK_rid 3 ?_; refine OK_mix [1, 2] [] [] [0, 3, 4, 5] [.box 24 gx [.int .i64 x.kind, .int .i64 x.num, .string x.text, .slice ap x.parts.length cp]] (id := 3) (by kernel_rfl) (by kernel_rfl) rfl (by first | exact Ent.pick [0] rfl) (by ((try simp only [pickO, nthO, List.cons_append, List.nil_append]) <;> exact rfl)) (by ((try simp only [pickO]) <;> exact rfl)) (by ((try simp only [pickO]) <;> exact rfl)) (by ((try simp only [pickO, nthO, List.cons_append, List.nil_append]) <;> exact rfl)) ?_)|(apply OKx_nilK)|(apply OK_block)|(apply blockQ_n)|(apply OK_condF;exact rfl)|(apply OK_skip)|(apply OK_ret)|(apply OKx_move;(conv=>lhs;whnf)<;>exact rfl)|(apply OKx_assign;(conv=>lhs;whnf)<;>exact rfl)|(apply OKx_ldB;exact rfl; (apply atP;constructor);exact rfl)|(apply OKx_len;exact rfl)|(apply OKx_gtr;exact rfl;exact rfl;all_goals (intro _; try (exfalso;omega)))|(apply OKx_eql;exact rfl;exact rfl;all_goals (intro _; try (exfalso;omega)))|(apply OKx_fldO;exact rfl;exact rfl)|(apply OKx_pickF;exact rfl;(conv=>lhs;whnf)<;>exact rfl)|(apply OKx_guardT;exact rfl;exact rfl))
          all_goals (try (exfalso;omega))
          refine bodyQ_r1 (by ((conv=>lhs;whnf)<;>exact rfl)) ?_
          exact ⟨.row 5 1 (.slice a2 (l.length + (bOf (wrdK x.kind)).size) c2) (l.length + (bOf (wrdK x.kind)).size) (Lib.byteCells l ++ Lib.strCells (bOf (wrdK x.kind))) :: K, Ent.sub ((((List.Sublist.refl K).cons_cons _).cons _).cons _), TxtR.mk (l ++ wrdK x.kind) (by rw [bOf_size]; exact List.length_append.symm) (bytes_app27 _ _) (by rw [List.length_append];omega) (.inl rfl)⟩
        · rw [hN, hT] at hprt
          simp only [Bool.false_eq_true, if_false, if_true, List.nil_append] at hprt
          rw [hN] at hN1
          rw [hT] at hT1
          rw [hprt] at hl ⊢
          have hl2 : (wrdK x.kind ++ 32 :: 34 :: (byts x.text ++ [34])).length = (wrdK x.kind).length + (byts x.text).length + 3 := by simp;omega
          rw [hl2] at hl
          refine SatL.of 89 [4] Tryz.func95 (by kernel_rfl) (by kernel_rfl) rfl rfl rfl rfl ?_
          repeat' (first|(apply OK_seq)|(apply thenQ_n)|(apply OK_region)|(apply OKx_boxA;exact rfl; intro gx)|(apply OKx_gc 113;exact rfl; refine OKx_call (f := 113) rfl rfl (fun w1 hp => hW w1) ?_; rintro _ _ ⟨gW, rfl, rfl⟩; rw [List.cons_append, List.nil_append])|(apply OKx_gi; refine OKx_idxOn (i := i) rfl hki (by omega) ?_)|(apply OKx_gl; refine OKx_ldW 0 rfl rfl (by omega) (by rw [Nat.mul_one]; exact hwa) ?_)|(apply OKx_gc 111;exact rfl; refine OKx_callV (f := 111) rfl rfl rfl (fun w1 hp => hN1 w1) ?_)|(apply OKx_gc 112;exact rfl; refine OKx_callV (f := 112) rfl rfl rfl (fun w1 hp => hT1 w1) ?_)|(refine OKx_sadd7 (a := wrdK x.kind) (b := [32, 34]) (c := wrdK x.kind ++ [32, 34]) rfl rfl (by simp;omega) rfl ?_)|(refine OKx_sadd7 (a := wrdK x.kind ++ [32, 34]) (b := byts x.text) (c := wrdK x.kind ++ [32, 34] ++ byts x.text) rfl hxt (by simp;omega) rfl ?_)|(refine OKx_sadd7 (a := wrdK x.kind ++ [32, 34] ++ byts x.text) (b := [34]) (c := wrdK x.kind ++ [32, 34] ++ byts x.text ++ [34]) rfl rfl (by simp;omega) rfl ?_)|(apply OKx_gb; refine OKx_appStr (sb := bOf (wrdK x.kind ++ [32, 34] ++ byts x.text ++ [34])) 2 rfl rfl rfl (by rw [bOf_size]; simp;omega) ?_; intro a2 c2; simp only [List.set_cons_succ, List.set_cons_zero])|(refine OK_rid 3 ?_; refine OK_mix [1, 2] [] [] [0, 3, 4, 5] [.box 24 gx [.int .i64 x.kind, .int .i64 x.num, .string x.text, .slice ap x.parts.length cp]] (id := 3) (by kernel_rfl) (by kernel_rfl) rfl (by first | exact Ent.pick [0] rfl) (by ((try simp only [pickO, nthO, List.cons_append, List.nil_append]) <;> exact rfl)) (by ((try simp only [pickO]) <;> exact rfl)) (by ((try simp only [pickO]) <;> exact rfl)) (by ((try simp only [pickO, nthO, List.cons_append, List.nil_append]) <;> exact rfl)) ?_)|(apply OKx_nilK)|(apply OK_block)|(apply thenQ_r)|(apply blockQ_r)|(apply OK_condT;exact rfl)|(apply OK_condF;exact rfl)|(apply OK_skip)|(apply OK_ret)|(apply OKx_move;(conv=>lhs;whnf)<;>exact rfl)|(apply OKx_assign;(conv=>lhs;whnf)<;>exact rfl)|(apply OKx_ldB;exact rfl; (apply atP;constructor);exact rfl)|(apply OKx_len;exact rfl)|(apply OKx_gtr;exact rfl;exact rfl;all_goals (intro _; try (exfalso;omega)))|(apply OKx_fldO;exact rfl;exact rfl))
          all_goals (try (exfalso;omega))
          refine bodyQ_r1 (by ((conv=>lhs;whnf)<;>exact rfl)) ?_
          have e0 : wrdK x.kind ++ [32, 34] ++ byts x.text ++ [34] = wrdK x.kind ++ 32 :: 34 :: (byts x.text ++ [34]) := by simp
          exact ⟨.row 5 1 (.slice a2 (l.length + (bOf (wrdK x.kind ++ [32, 34] ++ byts x.text ++ [34])).size) c2) (l.length + (bOf (wrdK x.kind ++ [32, 34] ++ byts x.text ++ [34])).size) (Lib.byteCells l ++ Lib.strCells (bOf (wrdK x.kind ++ [32, 34] ++ byts x.text ++ [34]))) :: K, Ent.sub ((((List.Sublist.refl K).cons_cons _).cons _).cons _), TxtR.mk (l ++ (wrdK x.kind ++ [32, 34] ++ byts x.text ++ [34])) (by rw [bOf_size]; exact List.length_append.symm) (bytes_app27 _ _) (by rw [List.length_append, e0];omega) (.inl (by rw [e0]))⟩
      · have hT := num_txt hN
        rw [hN, hT] at hprt
        simp only [Bool.false_eq_true, if_false, if_true, List.append_nil] at hprt
        rw [hN] at hN1
        rw [hprt] at hl ⊢
        have hl2 : (wrdK x.kind ++ 32 :: Lib.itoa x.num).length = (wrdK x.kind).length + (Lib.itoa x.num).length + 1 := by simp;omega
        rw [hl2] at hl
        refine SatL.of 89 [4] Tryz.func95 (by kernel_rfl) (by kernel_rfl) rfl rfl rfl rfl ?_
        repeat' (first|(apply OK_seq)|(apply thenQ_n)|(apply OK_region)|(apply OKx_boxA;exact rfl; intro gx)|(apply OKx_gc 113;exact rfl; refine OKx_call (f := 113) rfl rfl (fun w1 hp => hW w1) ?_; rintro _ _ ⟨gW, rfl, rfl⟩; rw [List.cons_append, List.nil_append])|(apply OKx_gi; refine OKx_idxOn (i := i) rfl hki (by omega) ?_)|(apply OKx_gl; refine OKx_ldW 0 rfl rfl (by omega) (by rw [Nat.mul_one]; exact hwa) ?_)|(apply OKx_gc 111;exact rfl; refine OKx_callV (f := 111) rfl rfl rfl (fun w1 hp => hN1 w1) ?_)|(apply OKx_gc 109;exact rfl; refine OKx_callV (f := 109) rfl rfl rfl (fun w1 hp => hit w1 hp.below) ?_)|(refine OKx_sadd7 (a := wrdK x.kind) (b := [32]) (c := wrdK x.kind ++ [32]) rfl rfl (by simp;omega) rfl ?_)|(refine OKx_sadd7 (a := wrdK x.kind ++ [32]) (b := Lib.itoa x.num) (c := wrdK x.kind ++ [32] ++ Lib.itoa x.num) rfl rfl (by simp;omega) rfl ?_)|(apply OKx_gb; refine OKx_appStr (sb := bOf (wrdK x.kind ++ [32] ++ Lib.itoa x.num)) 2 rfl rfl rfl (by rw [bOf_size]; simp;omega) ?_; intro a2 c2; simp only [List.set_cons_succ, List.set_cons_zero])|(refine OK_rid 3 ?_; refine OK_mix [1, 2] [] [] [0, 3, 4, 5] [.box 24 gx [.int .i64 x.kind, .int .i64 x.num, .string x.text, .slice ap x.parts.length cp]] (id := 3) (by kernel_rfl) (by kernel_rfl) rfl (by first | exact Ent.pick [0] rfl) (by ((try simp only [pickO, nthO, List.cons_append, List.nil_append]) <;> exact rfl)) (by ((try simp only [pickO]) <;> exact rfl)) (by ((try simp only [pickO]) <;> exact rfl)) (by ((try simp only [pickO, nthO, List.cons_append, List.nil_append]) <;> exact rfl)) ?_)|(apply OKx_nilK)|(apply OK_block)|(apply thenQ_r)|(apply blockQ_r)|(apply OK_condT;exact rfl)|(apply OK_condF;exact rfl)|(apply OK_skip)|(apply OK_ret)|(apply OKx_move;(conv=>lhs;whnf)<;>exact rfl)|(apply OKx_assign;(conv=>lhs;whnf)<;>exact rfl)|(apply OKx_ldB;exact rfl; (apply atP;constructor);exact rfl)|(apply OKx_len;exact rfl)|(apply OKx_gtr;exact rfl;exact rfl;all_goals (intro _; try (exfalso;omega)))|(apply OKx_fldO;exact rfl;exact rfl))
        all_goals (try (exfalso;omega))
        refine bodyQ_r1 (by ((conv=>lhs;whnf)<;>exact rfl)) ?_
        have e0 : wrdK x.kind ++ [32] ++ Lib.itoa x.num = wrdK x.kind ++ 32 :: Lib.itoa x.num := by simp
        exact ⟨.row 5 1 (.slice a2 (l.length + (bOf (wrdK x.kind ++ [32] ++ Lib.itoa x.num)).size) c2) (l.length + (bOf (wrdK x.kind ++ [32] ++ Lib.itoa x.num)).size) (Lib.byteCells l ++ Lib.strCells (bOf (wrdK x.kind ++ [32] ++ Lib.itoa x.num))) :: K, Ent.sub ((((List.Sublist.refl K).cons_cons _).cons _).cons _), TxtR.mk (l ++ (wrdK x.kind ++ [32] ++ Lib.itoa x.num)) (by rw [bOf_size]; exact List.length_append.symm) (bytes_app27 _ _) (by rw [List.length_append, e0];omega) (.inl (by rw [e0]))⟩
end Go.Proofs.YthnlnffmmioapaaGreatDoor
namespace Go.Proofs.YthnlnffmmioapaaGreatDoor
open Go.RowKit
set_option maxRecDepth 100000 in
set_option maxHeartbeats 4000000 in
theorem rIsN_sat (s : ByteArray) (w : World) (hs : s.size ≤ 140737488355328) : SatV Tryz.prog 73 [.string s] w (.bool (isNm s)) :=
  Sat.lib ⟨_, _, Tryz.func73, by kernel_rfl, rfl⟩ fun w1 hb => (rname_any s w1 hs).mono fun e w' ⟨h1, h2⟩ => ⟨_, [], h1, h2, rfl, rfl⟩
set_option maxRecDepth 100000 in
set_option maxHeartbeats 4000000 in
theorem print_sat (lv : Value) (rs : List Rul) (w : World) (hR : Ruls w lv rs) (ht : TbL w) (hl : rs.length ≤ 64) (hok : ∀ r ∈ rs, rulOk r) : Sat Tryz.prog 75 [lv] w (TxtR [] (linL rs) []) := by
  obtain ⟨g, hS, hE, hcp⟩ := hR
  obtain ⟨hbd0, la, lc, rfl, _⟩ := id hS
  have hbd : ∀ j, (linL (rs.take j)).length ≤ 419436800 := fun j => by
    have := linL_len 6553700 (rs.take j) fun r hr => (rulOk_len (hok r (List.mem_of_mem_take hr))).1
    have h2 : (rs.take j).length ≤ 64 := by rw [List.length_take];omega
    have h3 : 6553700 * (rs.take j).length ≤ 6553700 * 64 := Nat.mul_le_mul_left _ h2
    omega
  refine SatL.of 30 [2] Tryz.func75 (by kernel_rfl) (by kernel_rfl) rfl rfl rfl rfl ?_
  repeat' (first|(apply OK_seq)|(apply thenQ_n)|(apply OK_region)|(apply OKx_gt; apply OKx_slit0; intro g0)|(apply OKx_nilK)|(apply OK_block)|(apply OKx_assign;(conv=>lhs;whnf)<;>exact rfl))
  refine OK_loop2 3 4 [3, 4, 6, 7, 8, 9, 10, 11, 12, 13, 14, 15, 16, 17, 18, 19, 20, 21, 22, 23, 24, 25, 26, 27, 28] (fun m v3 v4 L => ∃ (j : Nat) (q : List UInt8) (a : Option Addr) (c : Nat), j + m = rs.length ∧ v4 = .int .i64 (j : Int) ∧ v3 = .slice a q.length c ∧ q.length ≤ (linL (rs.take j)).length ∧ (q = linL (rs.take j) ∨ 65536 < q.length) ∧ L = [.row 5 1 (.slice a q.length c) q.length (Lib.byteCells q)]) rs.length _ (Ent.refl _ _) ⟨0, [], some ⟨g0, 0, none⟩, 0, by omega, rfl, rfl, Nat.le_refl _, .inl rfl, rfl⟩ ?_
  rintro m v3 v4 L G ⟨j, q, a, c, hm, rfl, rfl, hq1, hq2, rfl⟩
  by_cases hj : j < rs.length
  · have hb0 := hbd (j + 1)
    have hst := linL_step rs j hj
    have hok1 := hok _ (List.getElem_mem hj)
    have hln := rulOk_len hok1
    have hbn := byts_len rs[j].name
    obtain ⟨a1, a2, a3, a4, hag, hX, hnz⟩ := hE j hj
    have hag2 := Value.agg.inj hag
    simp only [Array.mk.injEq, List.cons.injEq, and_true] at hag2
    obtain ⟨e0, e1, e2, e3, e4⟩ := hag2
    have hnm : Value.string rs[j].name = .string (bOf (byts rs[j].name)) := by rw [show bOf (byts rs[j].name) = rs[j].name from bOf_data _]
    have hll : (lineL rs[j]).length = (byts rs[j].name).length + 2 + rs[j].cnd.prt.length + 1 := by unfold lineL; simp;omega
    rw [hst, List.length_append, hll] at hb0
    have ez : (bOf (byts rs[j].name ++ [58, 32])).size = (byts rs[j].name).length + 2 := by rw [bOf_size]; simp
    have eq0 : (q ++ (byts rs[j].name ++ [58, 32])).length = q.length + ((byts rs[j].name).length + 2) := by simp
    have hW := fun a5 c5 => text_sat _ rs[j].cnd (Nat.le_refl _) (rgtE_zero hok1.1).2 _ a5 c5 (q ++ (byts rs[j].name ++ [58, 32])) w [] hX ht (by rw [eq0];omega)
    rw [← e1, ← e2, ← e3, ← e4, eq0, ← bytes_app27, ← ez] at hW
    repeat' (first|(apply OK_seq)|(apply thenQ_n)|(apply OK_region)|(apply OKx_gi; refine OKx_idxR2 (i := j) rfl hS rfl hj ?_; intro pp hpp)|(refine OKx_fldR (off := 0) rfl hpp (by decide) ?_; rw [e0]; intro pq hpq)|(refine OKx_fldRA (off := 1) (len := 4) rfl hpp (by decide) ?_; intro pq hpq)|(apply OKx_gl; refine OKx_ldRA rfl hpq ?_)|(refine OKx_sadd7 (a := byts rs[j].name) (b := [58, 32]) (c := byts rs[j].name ++ [58, 32]) hnm rfl (by simp;omega) rfl ?_)|(apply OKx_gb; refine OKx_appStr (sb := bOf (byts rs[j].name ++ [58, 32])) 0 rfl rfl rfl (by rw [ez];omega) ?_; intro a5 c5; simp only [List.set_cons_zero])|(apply OKx_gc 95;exact rfl; refine OKx_callL (f := 95) rfl rfl (hW _ _) ?_; rintro _ _ ⟨q3, a3, c3, h1, h2, rfl, rfl⟩)|(apply OKx_gb; refine OKx_append1 (y := .int .u8 10) 1 0 rfl rfl rfl rfl rfl (by rw [eq0] at h1;omega) (by rw [eq0] at h1;omega) ?_; intro gB cB; simp only [List.set_cons_succ, List.set_cons_zero])|(apply OKx_nilK)|(apply OK_block)|(apply blockQ_n)|(apply OK_condT;exact rfl)|(apply OK_skip)|(apply OKx_move;(conv=>lhs;whnf)<;>exact rfl)|(apply OKx_assign;(conv=>lhs;whnf)<;>exact rfl)|(apply OKx_ldR;(conv=>lhs;whnf)<;>exact rfl;(with_reducible assumption))|(apply OKx_len;exact rfl)|(apply OKx_lss;exact rfl;exact rfl;all_goals (intro _; try (exfalso;omega)))|(apply OKx_inc;exact rfl;exact rfl;omega)|(apply OKx_slit1;(conv=>lhs;whnf)<;>exact rfl;exact rfl;intro _))
    all_goals (try (exfalso;omega))
    rw [eq0] at h1
    have e5 : (q3 ++ [(10 : UInt8)]).length = q3.length + 1 := by simp
    refine ⟨by (repeat' (first | refine agree_upd rfl ?_ | exact agree_over | exact agree_refl _ _ | refine agree_over2 rfl ?_)), m - 1, _, by omega, Ent.pick [1] rfl, ?_⟩
    refine ⟨j + 1, q3 ++ [10], some ⟨gB, 0, none⟩, cB, by omega, rfl, by rw [e5] <;> rfl, by rw [e5, hst, List.length_append, hll];omega, ?_, by rw [e5, ← bytes_snoc27 q3 10] <;> rfl⟩
    rcases h2 with h2 | h2
    · rcases hq2 with hq2 | hq2
      · exact .inl (by rw [h2, hq2, hst]; unfold lineL; simp)
      · exact .inr (by rw [e5, h2, List.length_append, List.length_append];omega)
    · exact .inr (by rw [e5];omega)
  · obtain rfl : j = rs.length := by omega
    rw [List.take_length] at hq1 hq2
    repeat' (first|(apply OK_seq)|(apply thenQ_n)|(apply OK_region)|(apply OKx_nilK)|(apply blockQ_s)|(apply thenQ_e)|(apply OK_condF;exact rfl)|(apply OK_exit)|(apply OK_ret)|(apply OKx_move;(conv=>lhs;whnf)<;>exact rfl)|(apply OKx_assign;(conv=>lhs;whnf)<;>exact rfl)|(apply OKx_len;exact rfl)|(apply OKx_lss;exact rfl;exact rfl;all_goals (intro _; try (exfalso;omega))))
    all_goals (try (exfalso;omega))
    refine bodyQ_r1 (by ((conv=>lhs;whnf)<;>exact rfl)) ?_
    exact ⟨_, Ent.refl _ _, TxtR.mk q rfl rfl (by simpa using hq1) (by simpa using hq2)⟩
end Go.Proofs.YthnlnffmmioapaaGreatDoor
