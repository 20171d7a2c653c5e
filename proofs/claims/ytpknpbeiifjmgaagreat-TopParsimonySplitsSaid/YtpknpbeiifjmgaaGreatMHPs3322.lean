/-
  Part 22 of the proof: By33. No statement of the seat is proved here.
-/
import Derived.Test.YtpknpbeiifjmgaaGreatMHPs3321
namespace Go.Proofs.YtpknpbeiifjmgaaGreat
open Go.RowKit
theorem sub_root {par : List Int} (h0 : 0 < par.length) (hup : ∀ i, 0 < i → i < par.length → 0 ≤ par.getD i 0 ∧ par.getD i 0 < (i : Int)) : ∀ i, i < par.length → sub33 par 0 i = true := by
  intro i
  induction i using Nat.strongRecOn with
  | ind i ih =>
    intro hi
    rcases Nat.eq_zero_or_pos i with rfl | h
    · exact sub_self 0
    · rw [sub_step hup 0 i hi h]
      have := hup i h hi
      exact ih _ (by omega) (by omega)
set_option maxRecDepth 100000 in
set_option maxHeartbeats 4000000 in
theorem below_sat (pv nv : Value) (a : Option Addr) (n c : Nat) (w : World) : Sat Tryz.prog 31 [.agg #[pv, nv], .slice a n c] w (fun u L => ∃ gt gn, u = .func (.func 50) #[] #[.pointer (some ⟨gt, 0, none⟩), .pointer (some ⟨gn, 0, none⟩)] ∧ L = [.box 23 gn [.slice a n c], .box 25 gt [pv, nv]]) := by
  refine SatL.of 6 [4] Tryz.func31 (by kernel_rfl) (by kernel_rfl) rfl rfl rfl rfl ?_
  repeat' (first|(apply OK_seq)|(apply thenQ_n)|(apply OK_region)|(apply OKx_nilK)|(apply OK_block)|(apply blockQ_n)|(apply blockQ_s)|(apply thenQ_e)|(apply blockQ_e;exact rfl)|(apply thenQ_r)|(apply blockQ_r)|(apply OK_condT;exact rfl)|(apply OK_condF;exact rfl)|(apply OK_skip)|(apply OK_exit)|(apply OK_ret)|(apply OKx_assign;(conv=>lhs;whnf)<;>exact rfl)|(apply OKx_boxA;exact rfl;intro _)|(apply OKx_box1;(conv=>lhs;whnf)<;>exact rfl;exact rfl;intro _)|(apply OKx_func;exact rfl;exact rfl))
  rename_i gt gn
  refine bodyQ_r1 (by ((conv=>lhs;whnf)<;>exact rfl)) ?_
  exact ⟨_, Ent.refl _ _, gt, gn, rfl, rfl⟩
def AllN (t : Tre) (l : List (Value × Nat)) : Prop := (∀ q ∈ l, 0 < q.2 ∧ q.2 < t.par.length) ∧ (l.map (·.2)).Nodup ∧ ∀ i, 0 < i → i < t.par.length → ∃ q ∈ l, q.2 = i
set_option maxRecDepth 100000 in
set_option maxHeartbeats 4000000 in
set_option maxRecDepth 100000 in
set_option maxHeartbeats 4000000 in
theorem below1_sat (gt gn y : Nat) (pv nv sv : Value) (t : Tre) (w0 : World) (J Br : List Res) (JP : List (Value × Nat) → List Res → Prop) (hc : treC t = 0) (hP : Ints w0 pv t.par) (hN : Strs w0 nv t.names) (hS : Strs w0 sv (nmT t))
    (hrd : ∀ l J, JP l J → ∀ q ∈ l, ∀ w1, Hp w0.heap.size w0 w1 J → Ints w1 q.1 (belL t q.2)) (hJ : JP [] J)
    (hy : ∀ gw gy E v g c l J, 0 < v → v < t.par.length → l.length ≤ 5000 → JP l J → SatY Tryz.prog y [.slice (some ⟨g, 0, none⟩) (belL t v).length c] w0 ((.row 3 1 (.slice (some ⟨g, 0, none⟩) (belL t v).length c) (belL t v).length (ints (belL t v)) :: (J ++ (zB gt gw gn gy y pv nv sv ++ E))) ++ Br) (YdR JP (zB gt gw gn gy y pv nv sv ++ E) Br l (.slice (some ⟨g, 0, none⟩) (belL t v).length c, v))) :
    SatL Tryz.prog 50 [.func (.yield y) #[] #[], .pointer (some ⟨gt, 0, none⟩), .pointer (some ⟨gn, 0, none⟩)] w0 (.box 23 gn [sv] :: .box 25 gt [pv, nv] :: (J ++ Br)) (fun _ L => ∃ l J', AllN t l ∧ JP l J' ∧ L = J' ++ Br) := by
  obtain ⟨l0, _, _, _, _⟩ := treC_len hc
  have hup := (treC_par hc).2
  generalize hR : (fun (_ : Value) (L : List Res) => ∃ l J', AllN t l ∧ JP l J' ∧ L = J' ++ Br) = R
  refine SatL.of 8 [] Tryz.func50 (by kernel_rfl) (by kernel_rfl) rfl rfl rfl rfl ?_
  repeat' (first|(apply OK_seq)|(apply thenQ_n)|(apply OK_region)|(apply OKx_nilK)|(apply OK_block)|(apply blockQ_n)|(apply blockQ_s)|(apply thenQ_e)|(apply blockQ_e;exact rfl)|(apply thenQ_r)|(apply blockQ_r)|(apply OK_condT;exact rfl)|(apply OK_condF;exact rfl)|(apply OK_skip)|(apply OK_exit)|(apply OK_ret)|(apply OKx_ldB;exact rfl;(first | exact at0|exact at1|exact at2|exact at3|exact at4|exact at5|exact at6|exact at7);exact rfl)|(apply OKx_ldR;(conv=>lhs;whnf)<;>exact rfl;(with_reducible assumption))|(apply OKx_alloc1;intro _)|(apply OKx_stB;exact rfl;(conv=>lhs;whnf)<;>exact rfl;exact rfl;exact rfl;(first | exact at0|exact at1|exact at2|exact at3|exact at4|exact at5|exact at6|exact at7);exact rfl;exact rfl;exact rfl)|(apply OKx_box1;(conv=>lhs;whnf)<;>exact rfl;exact rfl;intro _)|(apply OKx_func;exact rfl;exact rfl))
  rename_i gy gw
  have hc2 := walk_sat gt gw gn gy y pv nv sv t w0 Br JP hc hP hN hS hrd (hy gw gy) t.par.length 0 [] [] J (by omega) l0 (by simp) hJ
  repeat' (first|(apply OK_seq)|(apply thenQ_n)|(apply OK_region)|(apply OKx_gc 51;exact rfl; refine OKx_callL (f := 51) rfl rfl (hc2.pre (Ent.pickT [_, _, _, _] (J ++ Br) [1, 0, 3, 2] rfl)) ?_; rintro _ _ ⟨x, l2, J2, rfl, hJ2, _, h1, h2, h3, rfl⟩)|(apply OKx_nilK)|(apply OK_block)|(apply blockQ_n)|(apply blockQ_s)|(apply thenQ_e)|(apply blockQ_e;exact rfl)|(apply thenQ_r)|(apply blockQ_r)|(apply OK_condT;exact rfl)|(apply OK_condF;exact rfl)|(apply OK_skip)|(apply OK_exit)|(apply OK_ret)|(apply OKx_ldB;exact rfl;(first | exact at0|exact at1|exact at2|exact at3|exact at4|exact at5|exact at6|exact at7);exact rfl)|(apply OKx_ldR;(conv=>lhs;whnf)<;>exact rfl;(with_reducible assumption))|(apply OKx_alloc1;intro _)|(apply OKx_stB;exact rfl;(conv=>lhs;whnf)<;>exact rfl;exact rfl;exact rfl;(first | exact at0|exact at1|exact at2|exact at3|exact at4|exact at5|exact at6|exact at7);exact rfl;exact rfl;exact rfl)|(apply OKx_box1;(conv=>lhs;whnf)<;>exact rfl;exact rfl;intro _)|(apply OKx_func;exact rfl;exact rfl))
  first | refine bodyQ_r0 ?_ | refine bodyQ_n0 ?_
  subst hR
  exact ⟨_, Ent.sub (List.sublist_append_right _ _), l2, J2, ⟨fun q hq => ⟨(h1 q hq).1, (h1 q hq).2.1⟩, h2, fun i hi hin => h3 i hi hin (sub_root l0 hup i hin)⟩, hJ2, rfl⟩
end Go.Proofs.YtpknpbeiifjmgaaGreat
