/-
  Part 12 of the proof: Gi07, Pc07, Ph07, Gj07, Any. No statement of the seat is proved here.
-/
import Derived.Test.YtbooccpfdekaiaaMHRv0711
import Derived.Laws.StructEq
import Derived.DeepKeys4
namespace Go.Proofs.Ytbooccpfdekaiaa
open Go.RowKit
def revE (p : List UInt8) : Int := if patE p ≠ 0 then 1 else 0
def revS (p : List UInt8) : List UInt8 := if patE p ≠ 0 then [] else revP p
theorem take_mid (a x r : List UInt8) : ((a ++ (x ++ r)).take (a.length + x.length)).drop a.length = x := by
  rw [← List.append_assoc, ← List.length_append, List.take_left, List.drop_left]
theorem flat_take (xs : List (List UInt8)) (k : Nat) (hk : k < xs.length) : (xs.flatten.take ((xs.take k).flatten.length + (xs.getD k []).length)).drop (xs.take k).flatten.length = xs.getD k [] ∧ (xs.take k).flatten.length + (xs.getD k []).length ≤ xs.flatten.length := by
  have h : xs.flatten = (xs.take k).flatten ++ (xs.getD k [] ++ (xs.drop (k + 1)).flatten) := by
    rw [getD_lt _ _ _ hk, ← List.flatten_cons, ← List.drop_eq_getElem_cons hk, ← List.flatten_append, List.take_append_drop]
  constructor
  · rw [h]
    exact take_mid _ _ _
  · conv => rhs; rw [h]
    rw [List.length_append, List.length_append]
    omega
theorem revP_at (xs : List (List UInt8)) (k : Nat) (hk : k < xs.length) : (xs.drop k).reverse.flatten = (xs.drop (k + 1)).reverse.flatten ++ xs.getD k [] := by
  rw [List.drop_eq_getElem_cons hk, List.reverse_cons, List.flatten_append, List.flatten_cons, List.flatten_nil, List.append_nil, getD_lt _ _ _ hk]
set_option maxRecDepth 100000 in
set_option maxHeartbeats 4000000 in
theorem Reverse_sat (p : List UInt8) (w : World) (hp : p.length ≤ 140737488355328) : SatV Try.prog 22 [.string (bOf p)] w (.tuple #[.string (bOf (revS p)), .int .i64 (revE p)]) := by
  unfold revS revE
  by_cases h : patE p = 0
  rotate_left
  · rw [if_pos h, if_pos h]
    refine SatL.of 36 [2, 3] Try.func22 (by kernel_rfl) (by kernel_rfl) rfl rfl rfl rfl ?_
    repeat' (first|(apply OK_seq)|(apply thenQ_n)|(apply OK_region)|(apply OKx_gc 34;exact rfl; refine OKx_callV (f := 34) rfl rfl rfl (fun w1 hp1 => elements_bad p w1 hp h) ?_)|(refine OK_rid 8 ?_; refine OK_quiet (id := 8) (by kernel_rfl) (by kernel_rfl) ?_)|(apply OKx_nilK)|(apply OK_block)|(apply blockQ_n)|(apply blockQ_s)|(apply thenQ_e)|(apply blockQ_e;exact rfl)|(apply thenQ_r)|(apply blockQ_r)|(apply OK_condT;exact rfl)|(apply OK_condF;exact rfl)|(apply OK_skip)|(apply OK_exit)|(apply OK_ret)|(apply OKx_move;(conv=>lhs;whnf)<;>exact rfl)|(apply OKx_assign;(conv=>lhs;whnf)<;>exact rfl)|(apply OKx_ldB;exact rfl;(first | exact at0|exact at1|exact at2|exact at3|exact at4|exact at5|exact at6|exact at7);exact rfl)|(apply OKx_ldR;(conv=>lhs;whnf)<;>exact rfl;(with_reducible assumption))|(apply OKx_ldI;exact rfl;(first | exact at0|exact at1|exact at2|exact at3|exact at4|exact at5|exact at6|exact at7);omega)|(apply OKx_len;exact rfl)|(apply OKx_lenR;(conv=>lhs;whnf)<;>exact rfl;(with_reducible assumption))|(apply OKx_lenR2;(conv=>lhs;whnf)<;>exact rfl;(with_reducible assumption))|(apply OKx_lenO;(conv=>lhs;whnf)<;>exact rfl;(first | exact at0|exact at1|exact at2|exact at3|exact at4|exact at5|exact at6|exact at7))|(apply OKx_geq;exact rfl;exact rfl;all_goals (intro _; try (exfalso;omega)))|(apply OKx_neq;exact rfl;exact rfl;all_goals (intro _; try (exfalso;omega)))|(apply OKx_idxR2;(conv=>lhs;whnf)<;>exact rfl;(with_reducible assumption);exact rfl;omega;intro _ _)|(apply OKx_fldO;exact rfl;exact rfl)|(apply OKx_fldR;(conv=>lhs;whnf)<;>exact rfl;(with_reducible assumption); decide;intro _ _)|(apply OKx_dec;exact rfl;exact rfl;omega;omega)|(apply OKx_subN;exact rfl;exact rfl;omega;omega)|(apply OKx_sub;exact rfl;exact rfl;omega;omega)|(apply OKx_extract;exact rfl;(conv=>lhs;whnf)<;>exact rfl)|(apply OKx_allocA;intro _))
    refine bodyQ_r2 (by ((conv=>lhs;whnf)<;>exact rfl)) (by ((conv=>lhs;whnf)<;>exact rfl)) ?_
    exact ⟨_, Ent.nil, rfl, rfl⟩
  rw [if_neg (fun hh => hh h), if_neg (fun hh => hh h)]
  have hl := (patE_len h).1
  have hfl := (prts_ok _ p (Nat.le_refl _) (patE_len h).2).2
  have hpl := prts_len p
  refine SatL.of 36 [2, 3] Try.func22 (by kernel_rfl) (by kernel_rfl) rfl rfl rfl rfl ?_
  repeat' (first|(apply OK_seq)|(apply thenQ_n)|(apply OK_region)|(apply OKx_gc 34;exact rfl; refine OKx_call (f := 34) rfl rfl (fun w1 hp1 => elements_ok p w1 hp h) ?_; rintro _ _ ⟨ve, rfl, rfl⟩)|(apply OKx_gb; refine OKx_lenO 0 rfl rfl ?_)|(refine OK_rid 8 ?_; refine OK_quiet (id := 8) (by kernel_rfl) (by kernel_rfl) ?_)|(apply OKx_nilK)|(apply OK_block)|(apply blockQ_n)|(apply blockQ_s)|(apply thenQ_e)|(apply blockQ_e;exact rfl)|(apply thenQ_r)|(apply blockQ_r)|(apply OK_condT;exact rfl)|(apply OK_condF;exact rfl)|(apply OK_skip)|(apply OK_exit)|(apply OK_ret)|(apply OKx_move;(conv=>lhs;whnf)<;>exact rfl)|(apply OKx_assign;(conv=>lhs;whnf)<;>exact rfl)|(apply OKx_ldB;exact rfl;(first | exact at0|exact at1|exact at2|exact at3|exact at4|exact at5|exact at6|exact at7);exact rfl)|(apply OKx_ldR;(conv=>lhs;whnf)<;>exact rfl;(with_reducible assumption))|(apply OKx_ldI;exact rfl;(first | exact at0|exact at1|exact at2|exact at3|exact at4|exact at5|exact at6|exact at7);omega)|(apply OKx_len;exact rfl)|(apply OKx_lenR;(conv=>lhs;whnf)<;>exact rfl;(with_reducible assumption))|(apply OKx_lenR2;(conv=>lhs;whnf)<;>exact rfl;(with_reducible assumption))|(apply OKx_lenO;(conv=>lhs;whnf)<;>exact rfl;(first | exact at0|exact at1|exact at2|exact at3|exact at4|exact at5|exact at6|exact at7))|(apply OKx_geq;exact rfl;exact rfl;all_goals (intro _; try (exfalso;omega)))|(apply OKx_neq;exact rfl;exact rfl;all_goals (intro _; try (exfalso;omega)))|(apply OKx_idxR2;(conv=>lhs;whnf)<;>exact rfl;(with_reducible assumption);exact rfl;omega;intro _ _)|(apply OKx_fldO;exact rfl;exact rfl)|(apply OKx_fldR;(conv=>lhs;whnf)<;>exact rfl;(with_reducible assumption); decide;intro _ _)|(apply OKx_dec;exact rfl;exact rfl;omega;omega)|(apply OKx_subN;exact rfl;exact rfl;omega;omega)|(apply OKx_sub;exact rfl;exact rfl;omega;omega)|(apply OKx_extract;exact rfl;(conv=>lhs;whnf)<;>exact rfl)|(apply OKx_allocA;intro _)|(apply OKx_build0))
  rename_i gb
  refine OK_loop1 7 [7, 18, 19, 20, 21, 22, 23, 24, 25, 26, 27, 28, 29, 30, 31, 32, 33, 34] (fun mm u L => ∃ (pb bv : Value), mm ≤ (prts p).length ∧ u = .int .i64 ((mm : Int) - 1) ∧ bldP gb pb ∧ L = bldL gb pb bv ((prts p).drop mm).reverse.flatten ++ [elsRes ve p]) (prts p).length _ (Ent.mk fun w1 hp => (Ent.pick [1, 0, 2] rfl).use w1 (hp.nil 5 1)) ⟨_, _, Nat.le_refl _, rfl, .inl rfl, by rw [List.drop_length] <;> rfl⟩ ?_
  rintro mm u L G ⟨pb, bv, hm, rfl, hbp, rfl⟩
  by_cases hk : mm = 0
  · subst hk
    repeat' (first|(apply OK_seq)|(apply thenQ_n)|(apply OK_region)|(apply OKx_gc 43;exact rfl; refine OKx_callL (f := 43) rfl rfl (bldStr_sat gb pb bv (((prts p).drop 0).reverse.flatten) _ [elsRes ve p] hbp) ?_; rintro _ _ ⟨rfl, rfl⟩)|(refine OK_rid 8 ?_; refine OK_quiet (id := 8) (by kernel_rfl) (by kernel_rfl) ?_)|(apply OKx_nilK)|(apply OK_block)|(apply blockQ_n)|(apply blockQ_s)|(apply thenQ_e)|(apply blockQ_e;exact rfl)|(apply thenQ_r)|(apply blockQ_r)|(apply OK_condT;exact rfl)|(apply OK_condF;exact rfl)|(apply OK_skip)|(apply OK_exit)|(apply OK_ret)|(apply OKx_move;(conv=>lhs;whnf)<;>exact rfl)|(apply OKx_assign;(conv=>lhs;whnf)<;>exact rfl)|(apply OKx_ldB;exact rfl;(first | exact at0|exact at1|exact at2|exact at3|exact at4|exact at5|exact at6|exact at7);exact rfl)|(apply OKx_ldR;(conv=>lhs;whnf)<;>exact rfl;(with_reducible assumption))|(apply OKx_ldI;exact rfl;(first | exact at0|exact at1|exact at2|exact at3|exact at4|exact at5|exact at6|exact at7);omega)|(apply OKx_len;exact rfl)|(apply OKx_lenR;(conv=>lhs;whnf)<;>exact rfl;(with_reducible assumption))|(apply OKx_lenR2;(conv=>lhs;whnf)<;>exact rfl;(with_reducible assumption))|(apply OKx_lenO;(conv=>lhs;whnf)<;>exact rfl;(first | exact at0|exact at1|exact at2|exact at3|exact at4|exact at5|exact at6|exact at7))|(apply OKx_geq;exact rfl;exact rfl;all_goals (intro _; try (exfalso;omega)))|(apply OKx_neq;exact rfl;exact rfl;all_goals (intro _; try (exfalso;omega)))|(apply OKx_idxR2;(conv=>lhs;whnf)<;>exact rfl;(with_reducible assumption);exact rfl;omega;intro _ _)|(apply OKx_fldO;exact rfl;exact rfl)|(apply OKx_fldR;(conv=>lhs;whnf)<;>exact rfl;(with_reducible assumption); decide;intro _ _)|(apply OKx_dec;exact rfl;exact rfl;omega;omega)|(apply OKx_subN;exact rfl;exact rfl;omega;omega)|(apply OKx_sub;exact rfl;exact rfl;omega;omega)|(apply OKx_extract;exact rfl;(conv=>lhs;whnf)<;>exact rfl)|(apply OKx_allocA;intro _))
    refine bodyQ_r2 (by ((conv=>lhs;whnf)<;>exact rfl)) (by ((conv=>lhs;whnf)<;>exact rfl)) ?_
    exact ⟨_, Ent.nil, rfl, rfl⟩
  · obtain ⟨k, rfl⟩ : ∃ k, mm = k + 1 := ⟨mm - 1, by omega⟩
    have hk : k < (prts p).length := by omega
    refine OK_world7 fun w1 hw1 => ?_
    obtain ⟨g, cap, rfl⟩ := hw1.rowForm 2 rfl (by omega)
    have hcell := elX_at hk
    have h7 := elX_257 p k
    have h8 := elX_258 p k
    rw [← hcell 257 (by decide)] at h7
    rw [← hcell 258 (by decide)] at h8
    obtain ⟨ht1, ht2⟩ := flat_take (prts p) k hk
    rw [hfl] at ht1 ht2
    have hra := revP_at (prts p) k hk
    have hlen : ((prts p).drop (k + 1)).reverse.flatten.length ≤ 64 := by
      have := congrArg List.length (List.flatten_append (L₁ := (prts p).take (k + 1)) (L₂ := (prts p).drop (k + 1)))
      rw [List.take_append_drop, hfl, List.length_append] at this
      rw [List.length_flatten, List.map_reverse, List.sum_reverse, ← List.length_flatten]
      omega
    have e1 : (((k + 1 : Nat) : Int) - 1) = (k : Int) := by omega
    rw [e1]
    repeat' (first|(apply OK_seq)|(apply thenQ_n)|(apply OK_region)|(refine OKx_nil (m := .seq [elsRes (.slice (some ⟨g, 0, none⟩) (prts p).length cap) p]) (Ent.pick [2] rfl) ?_)|(apply OKx_gi; refine OKx_idxOn (i := k) rfl rfl hk ?_)|(apply OKx_gl; refine OKx_ldWs (k := k * 259 + 257) 2 rfl rfl (by omega) h7 ?_)|(apply OKx_gl; refine OKx_ldWs (k := k * 259 + 258) 2 rfl rfl (by omega) h8 ?_)|(refine OKx_sslLH rfl rfl rfl (by omega) ht2 ht1 ?_)|(apply OKx_gc 42;exact rfl; refine OKx_callL (f := 42) rfl rfl (bldW_sat gb pb bv (((prts p).drop (k + 1)).reverse.flatten) (bOf ((prts p).getD k [])) _ [elsRes (.slice (some ⟨g, 0, none⟩) (prts p).length cap) p] hbp (by rw [bOf_size];omega)) ?_; rintro _ _ ⟨rfl, bv2, rfl⟩)|(refine OK_rid 8 ?_; refine OK_mix2 [] [0, 1, 2, 3, 4, 5, 6, 7, 8, 9, 10, 11] [] [] [12] [elsRes (.slice (some ⟨g, 0, none⟩) (prts p).length cap) p] (id := 8) (by kernel_rfl) (by kernel_rfl) rfl (by first | exact Ent.pick [2] rfl) (by ((try simp only [pickO]) <;> exact rfl)) (by ((try simp only [pickO, nthO, List.cons_append, List.nil_append]) <;> exact rfl)) (by ((try simp only [pickO]) <;> exact rfl)) (by ((try simp only [pickO]) <;> exact rfl)) (by ((try simp only [pickO, nthO, List.cons_append, List.nil_append]) <;> exact rfl)) ?_)|(apply OKx_nilK)|(apply OK_block)|(apply blockQ_n)|(apply blockQ_s)|(apply thenQ_e)|(apply blockQ_e;exact rfl)|(apply thenQ_r)|(apply blockQ_r)|(apply OK_condT;exact rfl)|(apply OK_condF;exact rfl)|(apply OK_skip)|(apply OK_exit)|(apply OK_ret)|(apply OKx_move;(conv=>lhs;whnf)<;>exact rfl)|(apply OKx_assign;(conv=>lhs;whnf)<;>exact rfl)|(apply OKx_ldB;exact rfl;(first | exact at0|exact at1|exact at2|exact at3|exact at4|exact at5|exact at6|exact at7);exact rfl)|(apply OKx_ldR;(conv=>lhs;whnf)<;>exact rfl;(with_reducible assumption))|(apply OKx_ldI;exact rfl;(first | exact at0|exact at1|exact at2|exact at3|exact at4|exact at5|exact at6|exact at7);omega)|(apply OKx_len;exact rfl)|(apply OKx_lenR;(conv=>lhs;whnf)<;>exact rfl;(with_reducible assumption))|(apply OKx_lenR2;(conv=>lhs;whnf)<;>exact rfl;(with_reducible assumption))|(apply OKx_lenO;(conv=>lhs;whnf)<;>exact rfl;(first | exact at0|exact at1|exact at2|exact at3|exact at4|exact at5|exact at6|exact at7))|(apply OKx_geq;exact rfl;exact rfl;all_goals (intro _; try (exfalso;omega)))|(apply OKx_neq;exact rfl;exact rfl;all_goals (intro _; try (exfalso;omega)))|(apply OKx_idxR2;(conv=>lhs;whnf)<;>exact rfl;(with_reducible assumption);exact rfl;omega;intro _ _)|(apply OKx_fldO;exact rfl;exact rfl)|(apply OKx_fldR;(conv=>lhs;whnf)<;>exact rfl;(with_reducible assumption); decide;intro _ _)|(apply OKx_dec;exact rfl;exact rfl;omega;omega)|(apply OKx_subN;exact rfl;exact rfl;omega;omega)|(apply OKx_sub;exact rfl;exact rfl;omega;omega)|(apply OKx_extract;exact rfl;(conv=>lhs;whnf)<;>exact rfl)|(apply OKx_allocA;intro _))
    refine ⟨by (repeat' (first | refine agree_upd rfl ?_ | exact agree_over | exact agree_refl _ _ | refine agree_over2 rfl ?_)), k, _, by omega, Ent.refl _ _, ?_⟩
    exact ⟨_, bv2, by omega, rfl, .inr rfl, by rw [hra] <;> rfl⟩
end Go.Proofs.Ytbooccpfdekaiaa
namespace Go.Proofs.Ytbooccpfdekaiaa
open Go.RowKit
def lexL : List UInt8 → List UInt8 → Prop
  | [], [] => False
  | _ :: _, [] => False
  | [], _ :: _ => True
  | a :: r, b :: s => a.toNat < b.toNat ∨ (a = b ∧ lexL r s)
theorem lexL_nil : ∀ u, ¬ lexL u []
  | [] => fun h => h
  | _ :: _ => fun h => h
theorem lexL_irr : ∀ u, ¬ lexL u u
  | [] => fun h => h
  | a :: r => fun h => by
    rcases h with h | ⟨_, h⟩
    · omega
    · exact lexL_irr r h
theorem lexL_trans : ∀ {u v w : List UInt8}, lexL u v → lexL v w → lexL u w
  | _, [], _, h, _ => absurd h (lexL_nil _)
  | _, _ :: _, [], _, h => absurd h (lexL_nil _)
  | [], _ :: _, _ :: _, _, _ => trivial
  | a :: u, b :: v, c :: w, h, k => by
    rcases h with h | ⟨rfl, h⟩
    · rcases k with k | ⟨rfl, k⟩
      · exact .inl (by omega)
      · exact .inl h
    · rcases k with k | ⟨rfl, k⟩
      · exact .inl k
      · exact .inr ⟨rfl, lexL_trans h k⟩
theorem lexL_app {c d : UInt8} : ∀ {u v : List UInt8}, u.length = v.length → lexL u v → lexL (u ++ [c]) (v ++ [d])
  | _, [], _, h => absurd h (lexL_nil _)
  | [], _ :: _, h, _ => by simp at h
  | a :: u, b :: v, hl, h => by
    rcases h with h | ⟨rfl, h⟩
    · exact .inl h
    · exact .inr ⟨rfl, lexL_app (by simpa using hl) h⟩
theorem lexL_last {c d : UInt8} (h : c.toNat < d.toNat) : ∀ u : List UInt8, lexL (u ++ [c]) (u ++ [d])
  | [] => .inl h
  | _ :: u => .inr ⟨rfl, lexL_last h u⟩
def ltW (u w : List UInt8) : Prop := u.length < w.length ∨ (u.length = w.length ∧ lexL u w)
theorem ltW_irr (u : List UInt8) : ¬ ltW u u := fun h => h.elim (fun h => Nat.lt_irrefl _ h) (fun h => lexL_irr u h.2)
theorem ltW_trans {u v w : List UInt8} (h : ltW u v) (k : ltW v w) : ltW u w := by
  rcases h with h | ⟨h, h'⟩
  · rcases k with k | ⟨k, _⟩
    · exact .inl (by omega)
    · exact .inl (by omega)
  · rcases k with k | ⟨k, k'⟩
    · exact .inl (by omega)
    · exact .inr ⟨by omega, lexL_trans h' k'⟩
theorem ltW_app {u v : List UInt8} (c d : UInt8) (h : ltW u v) : ltW (u ++ [c]) (v ++ [d]) := by
  rcases h with h | ⟨h, h'⟩
  · exact .inl (by simpa using h)
  · exact .inr ⟨by simpa using h, lexL_app h h'⟩
theorem ltW_last {c d : UInt8} (h : c.toNat < d.toNat) (u : List UInt8) : ltW (u ++ [c]) (u ++ [d]) := .inr ⟨by simp, lexL_last h u⟩
theorem ltW_snoc (u : List UInt8) (c : UInt8) : ltW u (u ++ [c]) := .inl (by simp)
theorem ltW_nil (u : List UInt8) (c : UInt8) : ltW [] (u ++ [c]) := .inl (by simp)
def leW (u w : List UInt8) : Prop := u = w ∨ ltW u w
theorem leW_trans {u v w : List UInt8} (h : leW u v) (k : leW v w) : leW u w := by
  rcases h with rfl | h
  · exact k
  · rcases k with rfl | k
    · exact .inr h
    · exact .inr (ltW_trans h k)
theorem leW_lt {u v w : List UInt8} (h : leW u v) (k : ltW v w) : ltW u w := by
  rcases h with rfl | h
  · exact k
  · exact ltW_trans h k
theorem leW_app {u v : List UInt8} (c : UInt8) (h : leW u v) : leW (u ++ [c]) (v ++ [c]) := by
  rcases h with rfl | h
  · exact .inl rfl
  · exact .inr (ltW_app c c h)
theorem leW_len {u v : List UInt8} (h : leW u v) : u.length ≤ v.length := by
  rcases h with rfl | h | ⟨h, _⟩ <;> omega
theorem nxtK_zero (l : List Elc) (c : UInt8) : ∀ k, nxtK l 0 c k = 0
  | 0 => rfl
  | k + 1 => by
    rw [nxtK_succ, nxtK_zero l c k]
    unfold nxtE
    rw [Nat.zero_testBit, if_neg (by decide)]
theorem runM_ne {l : List Elc} {w : List UInt8} {c : UInt8} (h : runM l (w ++ [c]) ≠ 0) : runM l w ≠ 0 := fun e => h (by
  rw [runM_snoc, e]
  exact nxtK_zero l c _)
theorem mtB_ne {l : List Elc} {w : List UInt8} (h : mtB l w = true) : runM l w ≠ 0 := fun e => by
  unfold mtB at h
  rw [e, Nat.zero_testBit] at h
  cases h
def sameS (a b : List Elc) (u v : List UInt8) : Prop := runM a u = runM a v ∧ runM b u = runM b v
structure Bfs (a b : List Elc) (most : Nat) (Q : List (List UInt8)) (i c : Nat) : Prop where
  nil : Q[0]? = some []
  words : ∀ w ∈ Q, (∀ d ∈ w, chrB d = true) ∧ w.length ≤ most
  sorted : Q.Pairwise ltW
  diff : Q.Pairwise (fun u v => ¬ sameS a b u v)
  parent : ∀ v ∈ Q, v = [] ∨ ∃ j x d, Q[j]? = some x ∧ v = x ++ [d] ∧ (j < i ∨ (j = i ∧ d.toNat < c))
  done : ∀ j x d, Q[j]? = some x → (j < i ∨ (j = i ∧ d.toNat < c)) → x.length < most → chrB d = true → runM a (x ++ [d]) ≠ 0 → runM b (x ++ [d]) ≠ 0 → ∃ v ∈ Q, sameS a b v (x ++ [d]) ∧ leW v (x ++ [d])
  noacc : ∀ j x, Q[j]? = some x → j < i → ¬ (mtB a x = true ∧ mtB b x = true)
section
variable {a b : List Elc} {most : Nat} {Q : List (List UInt8)} {i c : Nat}
theorem bfs_0 (a b : List Elc) (most : Nat) : Bfs a b most [[]] 0 0 where
  nil := rfl
  words := fun w hw => by
    rw [List.mem_singleton] at hw
    subst hw
    exact ⟨fun d hd => absurd hd List.not_mem_nil, Nat.zero_le _⟩
  sorted := List.pairwise_singleton _ _
  diff := List.pairwise_singleton _ _
  parent := fun v hv => .inl (List.mem_singleton.1 hv)
  done := fun j x d _ h => by omega
  noacc := fun j x _ h => absurd h (Nat.not_lt_zero _)
theorem pw_at {α : Type} {R : α → α → Prop} : ∀ {l : List α}, l.Pairwise R → ∀ {j k : Nat} {x y : α}, l[j]? = some x → l[k]? = some y → j < k → R x y := by
  intro l h j k x y hj hk hjk
  obtain ⟨h1, rfl⟩ := List.getElem?_eq_some_iff.1 hj
  obtain ⟨h2, rfl⟩ := List.getElem?_eq_some_iff.1 hk
  exact List.pairwise_iff_getElem.1 h j k h1 h2 hjk
theorem Bfs.behind (h : Bfs a b most Q i c) {x : List UInt8} (hx : Q[i]? = some x) {d : UInt8} (hd : d.toNat = c) : ∀ v ∈ Q, ltW v (x ++ [d]) := by
  intro v hv
  rcases h.parent v hv with rfl | ⟨j, y, e, hy, rfl, hj | ⟨rfl, he⟩⟩
  · exact ltW_nil x d
  · exact ltW_app e d (pw_at h.sorted hy hx hj)
  · rw [hy] at hx
    cases hx
    exact ltW_last (by omega) _
theorem Bfs.step (h : Bfs a b most Q i c) {x : List UInt8} (hx : Q[i]? = some x) {d : UInt8} (hd : d.toNat = c)
    (hk : x.length < most → chrB d = true → runM a (x ++ [d]) ≠ 0 → runM b (x ++ [d]) ≠ 0 → ∃ v ∈ Q, sameS a b v (x ++ [d])) : Bfs a b most Q i (c + 1) where
  nil := h.nil
  words := h.words
  sorted := h.sorted
  diff := h.diff
  parent := fun v hv => by
    rcases h.parent v hv with e | ⟨j, y, e, hy, hv', hj⟩
    · exact .inl e
    · exact .inr ⟨j, y, e, hy, hv', by omega⟩
  done := fun j y e hy hj h1 h2 h3 h4 => by
    by_cases hc : j = i ∧ e.toNat = c
    · obtain ⟨rfl, he⟩ := hc
      rw [hx] at hy
      cases hy
      have : e = d := UInt8.toNat_inj.1 (by omega)
      subst this
      obtain ⟨v, hv, hs⟩ := hk h1 h2 h3 h4
      exact ⟨v, hv, hs, .inr (h.behind hx hd v hv)⟩
    · exact h.done j y e hy (by omega) h1 h2 h3 h4
  noacc := h.noacc
theorem Bfs.add (h : Bfs a b most Q i c) {x : List UInt8} (hx : Q[i]? = some x) {d : UInt8} (hd : d.toNat = c) (hl : x.length < most) (hc : chrB d = true)
    (hn : ∀ v ∈ Q, ¬ sameS a b v (x ++ [d])) : Bfs a b most (Q ++ [x ++ [d]]) i (c + 1) where
  nil := by
    have := (List.getElem?_eq_some_iff.1 h.nil).1
    rw [List.getElem?_append_left this]; exact h.nil
  words := fun w hw => by
    rcases List.mem_append.1 hw with hw | hw
    · exact h.words w hw
    · rw [List.mem_singleton] at hw
      subst hw
      refine ⟨fun e he => ?_, by rw [List.length_append, List.length_singleton];omega⟩
      rcases List.mem_append.1 he with he | he
      · exact (h.words x (List.mem_of_getElem? hx)).1 e he
      · rw [List.mem_singleton] at he; subst he; exact hc
  sorted := List.pairwise_append.2 ⟨h.sorted, List.pairwise_singleton _ _, fun v hv w hw => by
    rw [List.mem_singleton] at hw
    subst hw
    exact h.behind hx hd v hv⟩
  diff := List.pairwise_append.2 ⟨h.diff, List.pairwise_singleton _ _, fun v hv w hw => by
    rw [List.mem_singleton] at hw
    subst hw
    exact hn v hv⟩
  parent := fun v hv => by
    have hi := (List.getElem?_eq_some_iff.1 hx).1
    rcases List.mem_append.1 hv with hv | hv
    · rcases h.parent v hv with e | ⟨j, y, e, hy, hv', hj⟩
      · exact .inl e
      · exact .inr ⟨j, y, e, by rw [List.getElem?_append_left (List.getElem?_eq_some_iff.1 hy).1]; exact hy, hv', by omega⟩
    · rw [List.mem_singleton] at hv
      exact .inr ⟨i, x, d, by rw [List.getElem?_append_left hi]; exact hx, hv, by omega⟩
  done := fun j y e hy hj h1 h2 h3 h4 => by
    have hi := (List.getElem?_eq_some_iff.1 hx).1
    rw [List.getElem?_append_left (by omega)] at hy
    by_cases hce : j = i ∧ e.toNat = c
    · obtain ⟨rfl, he⟩ := hce
      rw [hx] at hy
      cases hy
      have : e = d := UInt8.toNat_inj.1 (by omega)
      subst this
      exact ⟨_, List.mem_append_right _ (List.mem_singleton.2 rfl), ⟨rfl, rfl⟩, .inl rfl⟩
    · obtain ⟨v, hv, hs⟩ := h.done j y e hy (by omega) h1 h2 h3 h4
      exact ⟨v, List.mem_append_left _ hv, hs⟩
  noacc := fun j y hy hj => by
    have hi := (List.getElem?_eq_some_iff.1 hx).1
    rw [List.getElem?_append_left (by omega)] at hy
    exact h.noacc j y hy hj
theorem Bfs.next (h : Bfs a b most Q i c) (hc : c = 256 ∨ ∀ x, Q[i]? = some x → ¬ x.length < most) (hn : ∀ x, Q[i]? = some x → ¬ (mtB a x = true ∧ mtB b x = true)) : Bfs a b most Q (i + 1) 0 where
  nil := h.nil
  words := h.words
  sorted := h.sorted
  diff := h.diff
  parent := fun v hv => by
    rcases h.parent v hv with e | ⟨j, y, e, hy, hv', hj⟩
    · exact .inl e
    · exact .inr ⟨j, y, e, hy, hv', by omega⟩
  done := fun j y e hy hj h1 h2 h3 h4 => by
    have he := e.toNat_lt
    by_cases hji : j = i
    · subst hji
      rcases hc with rfl | hc
      · exact h.done j y e hy (.inr ⟨rfl, he⟩) h1 h2 h3 h4
      · exact absurd h1 (hc y hy)
    · exact h.done j y e hy (by omega) h1 h2 h3 h4
  noacc := fun j y hy hj => by
    by_cases hji : j = i
    · subst hji; exact hn y hy
    · exact h.noacc j y hy (by omega)
theorem Bfs.reach (h : Bfs a b most Q i 0) : ∀ u : List UInt8, (∀ d ∈ u, chrB d = true) → u.length ≤ most → runM a u ≠ 0 → runM b u ≠ 0 → (∀ (k : Nat) (v : List UInt8), Q[k]? = some v → leW v u → k < i) → ∃ (k : Nat) (v : List UInt8), Q[k]? = some v ∧ sameS a b v u ∧ leW v u := by
  intro u
  induction u using snocInd7 with
  | h0 =>
    intro _ _ _ _ _
    exact ⟨0, [], h.nil, ⟨rfl, rfl⟩, .inl rfl⟩
  | hs u d ih =>
    intro h1 h2 h3 h4 h5
    rw [List.length_append, List.length_singleton] at h2
    have hsn := ltW_snoc u d
    obtain ⟨k, v, hv, hs, hle⟩ := ih (fun e he => h1 e (List.mem_append_left _ he)) (by omega) (runM_ne h3) (runM_ne h4) (fun k v hk hl => h5 k v hk (leW_trans hl (.inr hsn)))
    have hk := h5 k v hv (leW_trans hle (.inr hsn))
    have hlv := leW_len hle
    have e1 : runM a (v ++ [d]) = runM a (u ++ [d]) := by rw [runM_snoc, runM_snoc, hs.1]
    have e2 : runM b (v ++ [d]) = runM b (u ++ [d]) := by rw [runM_snoc, runM_snoc, hs.2]
    obtain ⟨v2, hv2, hs2, hle2⟩ := h.done k v d hv (.inl hk) (by omega) (h1 d (List.mem_append_right _ (List.mem_singleton.2 rfl))) (by rw [e1]; exact h3) (by rw [e2]; exact h4)
    obtain ⟨k2, hk2⟩ := List.getElem?_of_mem hv2
    exact ⟨k2, v2, hk2, ⟨hs2.1.trans e1, hs2.2.trans e2⟩, leW_trans hle2 (leW_app d hle)⟩
def Good (a b : List Elc) (most : Nat) (u : List UInt8) : Prop := (∀ d ∈ u, chrB d = true) ∧ u.length ≤ most ∧ mtB a u = true ∧ mtB b u = true
def First (a b : List Elc) (most : Nat) (w : List UInt8) : Prop := Good a b most w ∧ ∀ u, Good a b most u → ¬ ltW u w
theorem same_acc {u v : List UInt8} (h : sameS a b u v) : mtB a u = mtB a v ∧ mtB b u = mtB b v := by
  unfold mtB
  rw [h.1, h.2]
  exact ⟨rfl, rfl⟩
theorem Bfs.found (h : Bfs a b most Q i 0) {w : List UInt8} (hw : Q[i]? = some w) (ha : mtB a w = true) (hb : mtB b w = true) : First a b most w := by
  have hm := h.words w (List.mem_of_getElem? hw)
  refine ⟨⟨hm.1, hm.2, ha, hb⟩, fun u hu hlt => ?_⟩
  have key : ∀ (k : Nat) (v : List UInt8), Q[k]? = some v → leW v u → k < i := fun k v hk hl => by
    have hvw := leW_lt hl hlt
    refine Decidable.byContradiction fun hki => ?_
    by_cases he : k = i
    · subst he
      rw [hk] at hw
      cases hw
      exact ltW_irr _ hvw
    · exact ltW_irr _ (ltW_trans hvw (pw_at h.sorted hw hk (by omega)))
  obtain ⟨k, v, hv, hs, hle⟩ := h.reach u hu.1 hu.2.1 (mtB_ne hu.2.2.1) (mtB_ne hu.2.2.2) key
  have hk := key k v hv hle
  have := same_acc hs
  exact h.noacc k v hv hk ⟨by rw [this.1]; exact hu.2.2.1, by rw [this.2]; exact hu.2.2.2⟩
theorem Bfs.none (h : Bfs a b most Q i 0) (hi : Q.length ≤ i) : ∀ u, ¬ Good a b most u := fun u hu => by
  have key : ∀ (k : Nat) (v : List UInt8), Q[k]? = some v → leW v u → k < i := fun k v hk _ => by
    have := (List.getElem?_eq_some_iff.1 hk).1
    omega
  obtain ⟨k, v, hv, hs, hle⟩ := h.reach u hu.1 hu.2.1 (mtB_ne hu.2.2.1) (mtB_ne hu.2.2.2) key
  have hk := key k v hv hle
  have := same_acc hs
  exact h.noacc k v hv hk ⟨by rw [this.1]; exact hu.2.2.1, by rw [this.2]; exact hu.2.2.2⟩
theorem Bfs.size (h : Bfs a b most Q i c) : Q.length ≤ 2 ^ (a.length + 1) * 2 ^ (b.length + 1) := by
  have hn : (Q.map fun w => runM a w * 2 ^ (b.length + 1) + runM b w).Nodup := by
    refine List.pairwise_map.2 (h.diff.imp fun {u v} hd e => hd ?_)
    have hu := runM_lt b u
    have hv := runM_lt b v
    have hp : 0 < 2 ^ (b.length + 1) := Nat.pow_pos (by decide)
    have e1 : (runM a u * 2 ^ (b.length + 1) + runM b u) / 2 ^ (b.length + 1) = (runM a v * 2 ^ (b.length + 1) + runM b v) / 2 ^ (b.length + 1) := by rw [e]
    have e2 : (runM a u * 2 ^ (b.length + 1) + runM b u) % 2 ^ (b.length + 1) = (runM a v * 2 ^ (b.length + 1) + runM b v) % 2 ^ (b.length + 1) := by rw [e]
    rw [Nat.mul_comm, Nat.mul_add_div hp, Nat.div_eq_of_lt hu, Nat.add_zero, Nat.mul_comm, Nat.mul_add_div hp, Nat.div_eq_of_lt hv, Nat.add_zero] at e1
    rw [Nat.mul_comm, Nat.mul_add_mod, Nat.mod_eq_of_lt hu, Nat.mul_comm, Nat.mul_add_mod, Nat.mod_eq_of_lt hv] at e2
    exact ⟨e1, e2⟩
  have hsub : (Q.map fun w => runM a w * 2 ^ (b.length + 1) + runM b w) ⊆ List.range (2 ^ (a.length + 1) * 2 ^ (b.length + 1)) := fun x hx => by
    obtain ⟨w, _, rfl⟩ := List.mem_map.1 hx
    have h1 := runM_lt a w
    have h2 := runM_lt b w
    rw [List.mem_range]
    have h3 : (runM a w + 1) * 2 ^ (b.length + 1) ≤ 2 ^ (a.length + 1) * 2 ^ (b.length + 1) := Nat.mul_le_mul_right _ h1
    rw [Nat.succ_mul] at h3
    omega
  have := hn.length_le_of_subset hsub
  rwa [List.length_map, List.length_range] at this
end
end Go.Proofs.Ytbooccpfdekaiaa
namespace Go.Proofs.Ytbooccpfdekaiaa
open Go.RowKit
theorem exM0 : mtcB [100, 101, 42, 115] [100, 101, 117, 115] = true ∧ mtcE [100, 101, 42, 115] [100, 101, 117, 115] = 0 := by constructor <;> kernel_rfl
theorem exM1 : mtcB [100, 101, 42, 115] [100, 101, 117, 109] = false ∧ mtcE [100, 101, 42, 115] [100, 101, 117, 109] = 0 := by constructor <;> kernel_rfl
theorem exLit : litW [91, 100, 93, 101, 117, 115] = [100, 101, 117, 115] ∧ litB [91, 100, 93, 101, 117, 115] = true ∧ litE [91, 100, 93, 101, 117, 115] = 0 := by refine ⟨?_, ?_, ?_⟩ <;> kernel_rfl
theorem exBnd : bndR [97, 63, 91, 98, 99, 93, 42] = (3, -1, 0) := by kernel_rfl
theorem exPa : pat [97, 42] = [some (elHas [97]), none] := by kernel_rfl
theorem exPb : pat [42, 98] = [none, some (elHas [98])] := by kernel_rfl
theorem exEa : patE [97, 42] = 0 := by kernel_rfl
theorem exEb : patE [42, 98] = 0 := by kernel_rfl
theorem exHas (c b : UInt8) (h1 : c ≠ 63) (h2 : c ≠ 42) (h3 : c ≠ 91) : elHas [c] b = true ↔ b = c := by
  unfold elHas
  dsimp only
  rw [if_neg h1, if_neg h2, if_neg h3, decide_eq_true_eq]
theorem exGood : Good (pat [97, 42]) (pat [42, 98]) 8 [97, 98] := by
  refine ⟨fun d hd => ?_, by decide, by kernel_rfl, by kernel_rfl⟩
  simp only [List.mem_cons, List.not_mem_nil, or_false] at hd
  rcases hd with rfl | rfl <;> kernel_rfl
theorem exFirst {w : List UInt8} (h : First (pat [97, 42]) (pat [42, 98]) 8 w) : w = [97, 98] := by
  obtain ⟨⟨_, _, h1, h2⟩, h3⟩ := h
  have hn := h3 _ exGood
  rw [mtB_iff, exPa, Mt_set] at h1
  rw [mtB_iff, exPb, Mt_star] at h2
  obtain ⟨c, u, rfl, hc, _⟩ := h1
  obtain ⟨s, t, hst, ht⟩ := h2
  rw [Mt_one_set] at ht
  obtain ⟨b, rfl, hb⟩ := ht
  rw [exHas _ _ (by decide) (by decide) (by decide)] at hc hb
  subst hc hb
  match s, u, hst with
  | [], u, hst => cases hst
  | [_], u, hst => cases hst; rfl
  | _ :: _ :: s, u, hst => exact absurd (.inl (by rw [hst]; simp)) hn
def fineB (p : List UInt8) : Bool := decide (p.length ≤ 12) && decide (patE p = 0)
def plnB (w : List UInt8) : Bool := decide (w.length ≤ 12) && !decide (32 ∈ w)
theorem fine_of {p : List UInt8} (h : fineB p = true) : p.length ≤ 12 ∧ patE p = 0 ∧ errP p = 0 := by
  unfold fineB at h
  rw [Bool.and_eq_true, decide_eq_true_eq, decide_eq_true_eq] at h
  exact ⟨h.1, h.2, (patE_len h.2).2⟩
theorem pln_of {w : List UInt8} (h : plnB w = true) : w.length ≤ 12 ∧ chkS w = 0 := by
  unfold plnB at h
  rw [Bool.and_eq_true, decide_eq_true_eq, Bool.not_eq_true', decide_eq_false_iff_not] at h
  unfold chkS
  rw [if_neg (by omega), if_neg h.2]
  exact ⟨h.1, rfl⟩
theorem mtc_ok {p s : List UInt8} (hp : patE p = 0) (hs : chkS s = 0) : mtcB p s = mtB (pat p) s ∧ mtcE p s = 0 := by
  have h : mtcE p s = 0 := by
    unfold mtcE
    rw [if_neg (by rw [hp]; decide), hs]
  unfold mtcB
  rw [h]
  exact ⟨rfl, rfl⟩
end Go.Proofs.Ytbooccpfdekaiaa
namespace Go.Proofs.Ytbooccpfdekaiaa
open Go.RowKit Go.Maps
section
variable {P : Program} {n : Nat} {w0 : World} {K : Fm → List Res → Prop} {F : Fm} {L : List Res} {m : Md} {Lw : List Res} {ops : Array Oper} {rest : List Oper} {d : Option Nat} {ty : TypeId} {pos : String} {aft : Array Edge}
theorem OKx_insert {t k e : TypeId} {x y u : Operand} {g c : Nat} {Fk : Lit → Option Value} {key val : Value} {kl : Lit} [hE : Keeps w0 L Lw] (i : Nat) (hx : rv n F x = .map (some g)) (hy : rv n F y = key) (hu : rv n F u = val) (hi : L[i]? = some (.obj g (MapIs P k c Fk)))
    (Ky : Keyed P k) (ht : P.underlying t = some (.map k e)) (hn : c < 9223372036854775807) (hkey : keyOf P k key = some kl) (hl : WideAt.IsKeyLit kl)
    (kk : OKx P n w0 (.seq Lw) ops K rest (updo F d undef) (L.set i (.obj g (MapIs P k (c + 1) (putF Fk kl val))))) : OKx P n w0 (.seq Lw) ops K (⟨d, .insert t x y u, ty, pos, aft, none⟩ :: rest) F L := by
  refine OKx_act0 hE.ent fun w hp => ?_
  obtain ⟨w', hrun, hp'⟩ := hp.store i hi Ky ht hn (val := val) hkey hl
  refine ⟨w', _, ?_, hp', kk⟩
  simp [execOp, hx, hy, hu, hrun, Result.andThen]
theorem run_eqlA2 {e : TypeId} (w : World) (t : TypeId) (k : IntKind) (a b c d : Int) (ht : P.underlying t = some (.array 2 e)) (he : P.underlying e = some (.int k)) (hsz : ∀ w, (sizeOf e).run P w = .ok 1 w) :
    (binOp .eql t (.agg #[.int k a, .int k b]) (.agg #[.int k c, .int k d])).run P w = .ok (.bool ((a == c) && (b == d))) w := by
  rw [run_eql_struct, show (10000 : Nat) = 9998 + 1 + 1 from rfl, Op.equalIn]
  have p1 : ∀ (u v : Value) w, (part e #[u, v] 0).run P w = .ok u w := fun u v w => by simp [part, isAgg, run_underlying he]
  have p2 : ∀ (u v : Value) w, (part e #[u, v] 1).run P w = .ok v w := fun u v w => by simp [part, isAgg, run_underlying he]
  have q : ∀ (x y : Int) w, (Op.equalIn (9998 + 1) e (.int k x) (.int k y)).run P w = .ok (x == y) w := fun x y w => run_equalIn_int w 9998 e k k x y he
  simp only [Sem.run_bind, run_underlying ht, Result.andThen_ok, hsz, Std.Legacy.Range.forIn_eq_forIn_range', Std.Legacy.Range.size, Nat.sub_zero, Nat.add_sub_cancel, Nat.div_one]
  have e2 : List.range' 0 2 1 = [0, 1] := rfl
  rw [e2]
  simp only [List.forIn_cons, List.forIn_nil, Sem.run_bind, Nat.mul_one, p1, p2, q, Result.andThen_ok]
  have q' : ∀ (x y : Int) w, (Op.equalIn 9999 e (.int k x) (.int k y)).run P w = .ok (x == y) w := q
  cases h1 : (a == c) with
  | false => simp
  | true =>
    simp only [Bool.not_true, Bool.false_eq_true, if_false, Sem.run_pure, Result.andThen_ok, Bool.true_and, Nat.one_mul, Sem.run_bind, p2, q']
    cases h2 : (b == d) with
    | false => simp
    | true => simp
theorem OKx_eqlA2 {t ut e : TypeId} {x y : Operand} {k : IntKind} {a b c d' : Int} {r : Bool} {z : Value} [T : TOne P e z] (hx : rv n F x = .agg #[.int k a, .int k b]) (hy : rv n F y = .agg #[.int k c, .int k d']) (ht : P.underlying t = some (.array 2 e)) (he : P.underlying e = some (.int k)) (hg : P.eqGuardType P.depth t = false) (hr : ((a == c) && (b == d')) = r)
    (kk : OKx P n w0 m ops K rest (updo F d (.bool r)) L) : OKx P n w0 m ops K (⟨d, .binOp .eql t x y ut, ty, pos, aft, none⟩ :: rest) F L :=
  OKx_still (fun w _ _ _ _ _ => by
    have h1 := run_eqGuard_agg (P := P) w .eql t x y #[.int k a, .int k b] #[.int k c, .int k d'] hg
    have h2 := run_eqlA2 w t k a b c d' ht he T.size
    simp only [execOp, hx, hy, Sem.run_bind, h1, h2, hr, Result.andThen]
    rfl) kk
end
def prL (m1 m2 : Nat) : List Value := [.int .u64 ((m1 % 18446744073709551616 : Nat) : Int), .int .u64 ((m1 / 18446744073709551616 : Nat) : Int), .int .u64 ((m2 % 18446744073709551616 : Nat) : Int), .int .u64 ((m2 / 18446744073709551616 : Nat) : Int)]
def prV (m1 m2 : Nat) : Value := .agg (prL m1 m2).toArray
theorem prV_inj {m1 m2 k1 k2 : Nat} (h : prV m1 m2 = prV k1 k2) : m1 = k1 ∧ m2 = k2 := by
  unfold prV prL at h
  simp only [Value.agg.injEq, List.toArray_eq_iff, Value.int.injEq, List.cons.injEq, true_and, and_true] at h
  have := Nat.div_add_mod m1 18446744073709551616
  have := Nat.div_add_mod k1 18446744073709551616
  have := Nat.div_add_mod m2 18446744073709551616
  have := Nat.div_add_mod k2 18446744073709551616
  omega
theorem gLaid : laidOutB Try.prog = true := by kernel_rfl
theorem gKeyed : Keyed Try.prog 76 := Keyed.of_law (deep_law_laid gLaid (m := 3) (by omega) (of_decide_eq_true (by kernel_rfl)) (by kernel_rfl) (by rw [Try.underlying76]))
theorem kl_u64 (d : Nat) (x : Nat) (h : x < 18446744073709551616) : Try.prog.keyLits (d + 1) 71 [.int .u64 (x : Int)] = some [.int .u64 (x : Int)] := by
  unfold Program.keyLits
  rw [Try.underlying71]
  have : (Lit.int .u64 (x : Int)).wf = true := by
    simp [Lit.wf, IntKind.min, IntKind.max, IntKind.signed, IntKind.bits]
    omega
  simp [this]
theorem kl_arr (d : Nat) (x y : Nat) (h : x < 18446744073709551616) (h' : y < 18446744073709551616) : Try.prog.keyLits (d + 2) 73 [.int .u64 (x : Int), .int .u64 (y : Int)] = some [.int .u64 (x : Int), .int .u64 (y : Int)] := by
  rw [show d + 2 = (d + 1) + 1 from rfl]
  unfold Program.keyLits
  rw [Try.underlying73]
  have c1 : Try.prog.cellsOf 73 = 2 := by kernel_rfl
  have c2 : Try.prog.cellsOf 71 = 1 := by kernel_rfl
  have e2 : List.range 2 = [0, 1] := rfl
  simp [c1, c2, e2, kl_u64 d x h, kl_u64 d y h']
theorem key_pair (m1 m2 : Nat) (h1 : m1 < 2 ^ 128) (h2 : m2 < 2 ^ 128) : ∃ kl, keyOf Try.prog 76 (prV m1 m2) = some kl := by
  have e : (2 : Nat) ^ 128 = 18446744073709551616 * 18446744073709551616 := rfl
  rw [e] at h1 h2
  have a1 := Nat.div_lt_of_lt_mul h1
  have a2 := Nat.div_lt_of_lt_mul h2
  have b1 := Nat.mod_lt m1 (by decide : 18446744073709551616 > 0)
  have b2 := Nat.mod_lt m2 (by decide : 18446744073709551616 > 0)
  have hk : Try.prog.keyType 76 = true := by kernel_rfl
  have c1 : Try.prog.cellsOf 76 = 4 := by kernel_rfl
  have c2 : Try.prog.cellsOf 73 = 2 := by kernel_rfl
  have hsz : ∃ d, Try.prog.types.size + 1 = d + 2 + 1 := ⟨_, rfl⟩
  obtain ⟨d, hd⟩ := hsz
  unfold keyOf
  rw [Try.underlying76, hd]
  have hf : (prV m1 m2).formed Try.prog 76 = true := by
    unfold prV prL
    simp [Value.formed, Try.underlying76, c1]
  simp only [hk, hf, Bool.and_self, if_true]
  unfold Program.keyLits
  rw [Try.underlying76]
  unfold prV prL
  generalize m1 % 18446744073709551616 = x1 at b1 ⊢
  generalize m1 / 18446744073709551616 = x2 at a1 ⊢
  generalize m2 % 18446744073709551616 = x3 at b2 ⊢
  generalize m2 / 18446744073709551616 = x4 at a2 ⊢
  simp [Value.cells, c1, c2, kl_arr d _ _ b1 a1, kl_arr d _ _ b2 a2]
noncomputable def pkL (m1 m2 : Nat) : Lit := (keyOf Try.prog 76 (prV m1 m2)).getD .nil
theorem pkL_at (m1 m2 : Nat) (h1 : m1 < 2 ^ 128) (h2 : m2 < 2 ^ 128) : keyOf Try.prog 76 (prV m1 m2) = some (pkL m1 m2) := by
  obtain ⟨kl, h⟩ := key_pair m1 m2 h1 h2
  unfold pkL
  rw [h]
  rfl
theorem pkL_key (m1 m2 : Nat) (h1 : m1 < 2 ^ 128) (h2 : m2 < 2 ^ 128) : WideAt.IsKeyLit (pkL m1 m2) := gKeyed.key (pkL_at m1 m2 h1 h2)
theorem pkL_same (m1 m2 k1 k2 : Nat) (h1 : m1 < 2 ^ 128) (h2 : m2 < 2 ^ 128) (h3 : k1 < 2 ^ 128) (h4 : k2 < 2 ^ 128) : (pkL m1 m2).sameKey (pkL k1 k2) = decide (m1 = k1 ∧ m2 = k2) := by
  rw [Bool.eq_iff_iff, WideAt.sameKey_iff (pkL_key k1 k2 h3 h4), decide_eq_true_eq]
  constructor
  · intro h
    have e1 := pkL_at m1 m2 h1 h2
    rw [h] at e1
    exact prV_inj (gKeyed.inj e1 (pkL_at k1 k2 h3 h4))
  · rintro ⟨rfl, rfl⟩
    rfl
end Go.Proofs.Ytbooccpfdekaiaa
namespace Go.Proofs.Ytbooccpfdekaiaa
open Go.RowKit
def maskS (n : Nat) (S : List Nat) : Array Bool := ((List.range n).map fun i => memN i S).toArray
section
variable {P : Program} {n : Nat} {w0 : World} {Q : Exit → Fm → List Res → Prop} {K : Fm → List Res → Prop} {F : Fm} {L : List Res} {l : List Oper} {N f : Nat} {S : List Nat}
def OKa (P : Program) (n : Nat) (w0 : World) (K : Fm → List Res → Prop) (l : List Oper) (N f : Nat) (S : List Nat) (F : Fm) (L : List Res) : Prop :=
  ∀ w a, Fr n a F → Hp w0.heap.size w0 w L → wpAny P .any l.toArray (liftN n w0 K) f (maskS N S) a w
theorem OKa.use (h : OKa P n w0 K l N f S F L) : ∀ w a, Fr n a F → Hp w0.heap.size w0 w L → wpAny P .any l.toArray (liftN n w0 K) f (maskS N S) a w := h
def kidOk (l : List Oper) (N : Nat) (S : List Nat) (i : Nat) (S' : List Nat) : Bool := (maskS N S').toList == ((maskS N S).setIfInBounds i true).toList
theorem kidOk_eq {i : Nat} {S' : List Nat} (h : kidOk l N S i S' = true) : maskS N S' = (maskS N S).setIfInBounds i true := by
  unfold kidOk at h
  exact Array.toList_inj.1 (beq_iff_eq.1 h)
end
attribute [irreducible] OKa
end Go.Proofs.Ytbooccpfdekaiaa
