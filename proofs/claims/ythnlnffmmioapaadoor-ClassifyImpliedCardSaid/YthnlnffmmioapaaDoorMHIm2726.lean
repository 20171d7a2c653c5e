/-
  Part 26 of the proof: Ly27, Open, OpenS, OpenE, OpenL. No statement of the seat is proved here.
-/
import Derived.Test.YthnlnffmmioapaaDoorMHIm2725
import Derived.ProofKit
import Derived.SizedLaws
import Derived.Deep.Strs
import Derived.ChangeMaps5
import Derived.Lib.SmallJoins
namespace Go.Proofs.YthnlnffmmioapaaDoor
open Go.RowKit
set_option maxRecDepth 100000 in
set_option maxHeartbeats 4000000 in
theorem more_sat (k n : Int) (w : World) : SatV Tryd.prog 20 [.int .i64 k, .int .i64 n] w (.agg #[.int .i64 k, .int .i64 n, .string ⟨#[]⟩, .slice none 0 0]) := by
  refine SatL.ofC 8 4 24 4 Tryd.func20 (by kernel_rfl) (by kernel_rfl) rfl rfl rfl ?_
  repeat' (first|(apply OK_seq)|(apply thenQ_n)|(apply OK_region)|(refine OKx_buildG [(0, .int .i64 k), (1, .int .i64 n)] #[.int .i64 k, .int .i64 n, .string ⟨#[]⟩, .slice none 0 0] rfl (exp_build2 k n) ?_)|(apply OKx_nilK)|(apply OK_block)|(apply blockQ_n)|(apply blockQ_s)|(apply thenQ_e)|(apply blockQ_e;exact rfl)|(apply thenQ_r)|(apply blockQ_r)|(apply OK_condT;exact rfl)|(apply OK_condF;exact rfl)|(apply OK_skip)|(apply OK_exit)|(apply OK_ret)|(apply OKx_move;(conv=>lhs;whnf)<;>exact rfl)|(apply OKx_allocA;intro _)|(apply OKx_build2;(conv=>lhs;whnf)<;>exact rfl;(conv=>lhs;whnf)<;>exact rfl;exact rfl;exact rfl)|(apply OKx_stBA; kernel_rfl;exact rfl;exact rfl;exact rfl;(first | exact at0|exact at1|exact at2|exact at3|exact at4|exact at5|exact at6|exact at7);exact rfl;exact rfl;exact rfl))
  (apply bodyC_r;exact rfl;(first | exact at0|exact at1|exact at2|exact at3|exact at4|exact at5|exact at6|exact at7);exact rfl)
  · exact ⟨_, Ent.nil, rfl, rfl⟩
  · exact rfl
set_option maxRecDepth 100000 in
set_option maxHeartbeats 4000000 in
theorem im1_sat (x y : Cnd) (xn xm yn ym : Int) (xs ys : ByteArray) (xa ya : Option Addr) (xk xc yk yc : Nat) (ba la : Option Addr) (bc lc : Nat) (pb pl : Value) (b : List ByteArray) (l : List Rdn) (w : World)
    (hX : Exp w x (.agg #[.int .i64 xn, .int .i64 xm, .string xs, .slice xa xk xc])) (hY : Exp w y (.agg #[.int .i64 yn, .int .i64 ym, .string ys, .slice ya yk yc])) (hB : Strs w (.slice ba b.length bc) b) (hL : Rdns w (.slice la l.length lc) l)
    (hpb : Pt1 w pb (.slice ba b.length bc)) (hpl : Pt1 w pl (.slice la l.length lc)) (hkd : KdL w) (hkf : KfL w) (hi : ∀ r ∈ l, x.hd b r.words r.src.length = true → y.hd b r.words r.src.length = true) :
    SatV Tryd.prog 18 [.agg #[.int .i64 xn, .int .i64 xm, .string xs, .slice xa xk xc], .agg #[.int .i64 yn, .int .i64 ym, .string ys, .slice ya yk yc], pb, pl] w (.bool true) := by
  have hI := fun w1 (h : Below w.heap.size w w1) => Implies_sat _ _ _ _ x y b l w1 (hX.below h) (hY.below h) (hB.below h) (hL.below h) (hkd.below h) (hkf.below h)
  by_cases he : impE x y b l = 0
  · rw [he, imp_of hi he] at hI
    refine SatL.of 22 [6] Tryd.func18 (by kernel_rfl) (by kernel_rfl) rfl rfl rfl rfl ?_
    repeat' (first|(apply OK_seq)|(apply thenQ_n)|(apply OK_region)|(apply OKx_gl; refine OKx_ldR rfl hpb ?_)|(apply OKx_gl; refine OKx_ldR rfl hpl ?_)|(apply OKx_gc 19;exact rfl; refine OKx_callV (f := 19) rfl rfl rfl (fun w1 hp => hI w1 hp.below) ?_)|(apply OKx_nilK)|(apply OK_block)|(apply blockQ_n)|(apply blockQ_s)|(apply thenQ_e)|(apply blockQ_e;exact rfl)|(apply thenQ_r)|(apply blockQ_r)|(apply OK_condT;exact rfl)|(apply OK_condF;exact rfl)|(apply OK_skip)|(apply OK_exit)|(apply OK_ret)|(apply OKx_move;(conv=>lhs;whnf)<;>exact rfl)|(apply OKx_assign;(conv=>lhs;whnf)<;>exact rfl)|(apply OKx_ldB;exact rfl;(first | exact at0|exact at1|exact at2|exact at3|exact at4|exact at5|exact at6|exact at7);exact rfl)|(apply OKx_ldR;(conv=>lhs;whnf)<;>exact rfl;(with_reducible assumption))|(apply OKx_neq;exact rfl;exact rfl;all_goals (intro _; try (exfalso;omega)))|(apply OKx_pickT;exact rfl;(conv=>lhs;whnf)<;>exact rfl)|(apply OKx_pickF;exact rfl;(conv=>lhs;whnf)<;>exact rfl)|(apply OKx_guardT;exact rfl;exact rfl)|(apply OKx_guardF;exact rfl;exact rfl)|(apply OKx_guardU;exact rfl;exact rfl)|(apply OKx_extract;exact rfl;(conv=>lhs;whnf)<;>exact rfl)|(apply OKx_boxA;exact rfl;intro _)|(apply OKx_ldBA;exact rfl;(first | exact at0|exact at1|exact at2|exact at3|exact at4|exact at5|exact at6|exact at7);exact rfl)|(apply OKx_ldRA;(conv=>lhs;whnf)<;>exact rfl;(with_reducible assumption)))
    all_goals (try (exfalso;omega))
    refine bodyQ_r1 (by ((conv=>lhs;whnf)<;>exact rfl)) ?_
    exact ⟨_, Ent.nil, rfl, rfl⟩
  · generalize impE x y b l = e at hI he
    generalize impB x y b l = v at hI
    refine SatL.of 22 [6] Tryd.func18 (by kernel_rfl) (by kernel_rfl) rfl rfl rfl rfl ?_
    repeat' (first|(apply OK_seq)|(apply thenQ_n)|(apply OK_region)|(apply OKx_gl; refine OKx_ldR rfl hpb ?_)|(apply OKx_gl; refine OKx_ldR rfl hpl ?_)|(apply OKx_gc 19;exact rfl; refine OKx_callV (f := 19) rfl rfl rfl (fun w1 hp => hI w1 hp.below) ?_)|(apply OKx_nilK)|(apply OK_block)|(apply blockQ_n)|(apply blockQ_s)|(apply thenQ_e)|(apply blockQ_e;exact rfl)|(apply thenQ_r)|(apply blockQ_r)|(apply OK_condT;exact rfl)|(apply OK_condF;exact rfl)|(apply OK_skip)|(apply OK_exit)|(apply OK_ret)|(apply OKx_move;(conv=>lhs;whnf)<;>exact rfl)|(apply OKx_assign;(conv=>lhs;whnf)<;>exact rfl)|(apply OKx_ldB;exact rfl;(first | exact at0|exact at1|exact at2|exact at3|exact at4|exact at5|exact at6|exact at7);exact rfl)|(apply OKx_ldR;(conv=>lhs;whnf)<;>exact rfl;(with_reducible assumption))|(apply OKx_neq;exact rfl;exact rfl;all_goals (intro _; try (exfalso;omega)))|(apply OKx_pickT;exact rfl;(conv=>lhs;whnf)<;>exact rfl)|(apply OKx_pickF;exact rfl;(conv=>lhs;whnf)<;>exact rfl)|(apply OKx_guardT;exact rfl;exact rfl)|(apply OKx_guardF;exact rfl;exact rfl)|(apply OKx_guardU;exact rfl;exact rfl)|(apply OKx_extract;exact rfl;(conv=>lhs;whnf)<;>exact rfl)|(apply OKx_boxA;exact rfl;intro _)|(apply OKx_ldBA;exact rfl;(first | exact at0|exact at1|exact at2|exact at3|exact at4|exact at5|exact at6|exact at7);exact rfl)|(apply OKx_ldRA;(conv=>lhs;whnf)<;>exact rfl;(with_reducible assumption)))
    all_goals (try (exfalso;omega))
    refine bodyQ_r1 (by ((conv=>lhs;whnf)<;>exact rfl)) ?_
    exact ⟨_, Ent.nil, rfl, rfl⟩
set_option maxRecDepth 100000 in
set_option maxHeartbeats 4000000 in
theorem ClassifyImplied_sat (xv bv lv : Value) (x : Cnd) (num : Nat) (b : List ByteArray) (l : List Rdn) (w : World) (hX : Exp w x xv) (hn : num ≤ 255) (hB : Strs w bv b) (hL : Rdns w lv l) (hkd : KdL w) (hkf : KfL w) (ht : TbL w) : SatV Tryd.prog 6 [xv, .int .u8 (num : Int), bv, lv] w (.bool true) := by
  have hX0 := hX
  obtain ⟨xp, gx, rfl, _, hPx, _⟩ := hX.shape
  obtain ⟨_, xa, xc, rfl, _⟩ := id hPx
  obtain ⟨ba, bc, rfl, hbl, _⟩ := hB.at
  have hL0 := hL
  obtain ⟨gl, hSl, _⟩ := hL
  obtain ⟨hlb, la, lc, rfl, _⟩ := id hSl
  have hA := fun w1 (h : Below w.heap.size w w1) => awake27_sat w1 (hkd.below h) (hkf.below h) (ht.below h)
  have hF : ∀ (w1 : World) (g : Nat), Below w.heap.size w w1 → Sl2 w1 (.slice (some ⟨g, 0, none⟩) 1 1) 4 1 (fun j c => ([.int .i64 x.kind, .int .i64 x.num, .string x.text, .slice xa x.parts.length xc] : List Value).getD (j * 4 + c) undef) → SatV Tryd.prog 10 [.slice ba b.length bc, .slice la l.length lc, .slice (some ⟨g, 0, none⟩) 1 1] w1 (.bool (finB b l [x])) := fun w1 g h hs =>
    fine27_sat (.slice ba b.length bc) (.slice la l.length lc) (.slice (some ⟨g, 0, none⟩) 1 1) b l [x] _ w1 (hB.below h) (hL0.below h) hs (exps_one (xs := [.int .i64 x.kind, .int .i64 x.num, .string x.text, .slice xa x.parts.length xc]) rfl hs (hX0.below h)) (hkd.below h)
  cases hfin : finB b l [x]
  · rw [hfin] at hF
    refine SatL.of 81 [8] Tryd.func6 (by kernel_rfl) (by kernel_rfl) rfl rfl rfl rfl ?_
    repeat' (first|(apply OK_seq)|(apply thenQ_n)|(apply OK_region)|(apply OKx_gt; refine OKx_slit1A (cs := [.int .i64 x.kind, .int .i64 x.num, .string x.text, .slice xa x.parts.length xc]) rfl rfl rfl ?_; intro gR)|(apply OKx_gc 10;exact rfl; refine OKx_callV (f := 10) rfl rfl rfl (fun w1 hp => hF w1 _ hp.below (hp.sl2 0 rfl (by decide) rfl)) ?_)|(apply OKx_gc 11;exact rfl; refine OKx_callV (f := 11) rfl rfl rfl (fun w1 hp => hA w1 hp.below) ?_)|(apply OKx_nilK)|(apply OK_block)|(apply blockQ_n)|(apply blockQ_s)|(apply thenQ_e)|(apply blockQ_e;exact rfl)|(apply thenQ_r)|(apply blockQ_r)|(apply OK_condT;exact rfl)|(apply OK_condF;exact rfl)|(apply OK_skip)|(apply OK_exit)|(apply OK_ret)|(apply OKx_move;(conv=>lhs;whnf)<;>exact rfl)|(apply OKx_assign;(conv=>lhs;whnf)<;>exact rfl)|(apply OKx_ldB;exact rfl;(first | exact at0|exact at1|exact at2|exact at3|exact at4|exact at5|exact at6|exact at7);exact rfl)|(apply OKx_ldR;(conv=>lhs;whnf)<;>exact rfl;(with_reducible assumption))|(apply OKx_len;exact rfl)|(apply OKx_lenR;(conv=>lhs;whnf)<;>exact rfl;(with_reducible assumption))|(apply OKx_lenR2;(conv=>lhs;whnf)<;>exact rfl;(with_reducible assumption))|(apply OKx_lenO;(conv=>lhs;whnf)<;>exact rfl;(first | exact at0|exact at1|exact at2|exact at3|exact at4|exact at5|exact at6|exact at7))|(apply OKx_inc;exact rfl;exact rfl;omega)|(apply OKx_addN;exact rfl;exact rfl;omega)|(apply OKx_add;exact rfl;exact rfl;omega;omega)|(apply OKx_pickT;exact rfl;(conv=>lhs;whnf)<;>exact rfl)|(apply OKx_pickF;exact rfl;(conv=>lhs;whnf)<;>exact rfl)|(apply OKx_guardT;exact rfl;exact rfl)|(apply OKx_guardF;exact rfl;exact rfl)|(apply OKx_guardU;exact rfl;exact rfl)|(apply OKx_notT;exact rfl)|(apply OKx_notF;exact rfl)|(apply OKx_boxA;exact rfl;intro _)|(apply OKx_ldBA;exact rfl;(first | exact at0|exact at1|exact at2|exact at3|exact at4|exact at5|exact at6|exact at7);exact rfl)|(apply OKx_ldRA;(conv=>lhs;whnf)<;>exact rfl;(with_reducible assumption))|(apply OKx_slit1;(conv=>lhs;whnf)<;>exact rfl;exact rfl;intro _)|(apply OKx_box1;(conv=>lhs;whnf)<;>exact rfl;exact rfl;intro _)|(apply OKx_func;exact rfl;exact rfl))
    refine bodyQ_r1 (by ((conv=>lhs;whnf)<;>exact rfl)) ?_
    exact ⟨_, Ent.nil, rfl, rfl⟩
  rw [hfin] at hF
  obtain ⟨hb8, _⟩ := finB_yes hfin
  have cX : ∀ (w1 : World) (p q : Nat), Below w.heap.size w w1 → w1.cell? ⟨p, 0, none⟩ = some (.slice ba b.length bc) → w1.cell? ⟨q, 0, none⟩ = some (.slice la l.length lc) → SatV Tryd.prog 18 [.agg #[.int .i64 x.kind, .int .i64 x.num, .string x.text, .slice xa x.parts.length xc], .agg #[.int .i64 x.kind, .int .i64 x.num, .string x.text, .slice xa x.parts.length xc], .pointer (some ⟨p, 0, none⟩), .pointer (some ⟨q, 0, none⟩)] w1 (.bool true) := fun w1 p q h hp hq =>
    im1_sat x x _ _ _ _ _ _ _ _ _ _ _ _ ba la bc lc _ _ b l w1 (hX0.below h) (hX0.below h) (hB.below h) (hL0.below h) ⟨_, _, rfl, hp⟩ ⟨_, _, rfl, hq⟩ (hkd.below h) (hkf.below h) (fun r _ h => h)
  have cL : ∀ (k n k2 n2 : Int), (∀ ws ns, (Cnd.mk k n ⟨#[]⟩ []).hd b ws ns = true → (Cnd.mk k2 n2 ⟨#[]⟩ []).hd b ws ns = true) → ∀ (w1 : World) (p q : Nat), Below w.heap.size w w1 → w1.cell? ⟨p, 0, none⟩ = some (.slice ba b.length bc) → w1.cell? ⟨q, 0, none⟩ = some (.slice la l.length lc) → SatV Tryd.prog 18 [.agg #[.int .i64 k, .int .i64 n, .string ⟨#[]⟩, .slice none 0 0], .agg #[.int .i64 k2, .int .i64 n2, .string ⟨#[]⟩, .slice none 0 0], .pointer (some ⟨p, 0, none⟩), .pointer (some ⟨q, 0, none⟩)] w1 (.bool true) := fun k n k2 n2 hi w1 p q h hp hq =>
    im1_sat _ _ _ _ _ _ _ _ _ _ _ _ _ _ ba la bc lc _ _ b l w1 (exp_leaf w1 k n) (exp_leaf w1 k2 n2) (hB.below h) (hL0.below h) ⟨_, _, rfl, hp⟩ ⟨_, _, rfl, hq⟩ (hkd.below h) (hkf.below h) (fun r _ => hi _ _)
  have c5 := cL 5 ((num % 20 : Nat) : Int) 5 ((num % 20 + 1 : Nat) : Int) (fun ws ns => imp_dist _ b ws ns)
  have c6 := cL 6 ((num % 20 : Nat) : Int) 6 ((num % 20 + 1 : Nat) : Int) (fun ws ns => imp_words _ b ws ns)
  have c7 := cL 7 ((num % 20 + 1 : Nat) : Int) 7 ((num % 20 : Nat) : Int) (fun ws ns => imp_support ((num % 20 : Nat) : Int) b ws ns)
  have c10 := cL 10 0 6 (b.length : Int) (fun ws ns => imp_fold b ws ns)
  have c4 := cL 4 0 6 (b.length : Int) (fun ws ns => imp_order b ws ns)
  have hm : num % 20 < 20 := Nat.mod_lt _ (by decide)
  have e20 : ((num : Int) % 20).toNat = num % 20 := by omega
  refine SatL.of 81 [8] Tryd.func6 (by kernel_rfl) (by kernel_rfl) rfl rfl rfl rfl ?_
  repeat' (first|(apply OK_seq)|(apply thenQ_n)|(apply OK_region)|(apply OKx_gt; refine OKx_slit1A (cs := [.int .i64 x.kind, .int .i64 x.num, .string x.text, .slice xa x.parts.length xc]) rfl rfl rfl ?_; intro gR)|(apply OKx_gc 10;exact rfl; refine OKx_callV (f := 10) rfl rfl rfl (fun w1 hp => hF w1 _ hp.below (hp.sl2 0 rfl (by decide) rfl)) ?_)|(apply OKx_gc 11;exact rfl; refine OKx_callV (f := 11) rfl rfl rfl (fun w1 hp => hA w1 hp.below) ?_)|(apply OKx_gv; refine OKx_conv rfl (by kernel_rfl) Tryd.underlying3 (by omega) (by omega) ?_)|(apply OKx_gn; refine OKx_remN (a := num) (b := 20) rfl rfl (by decide) (by omega) ?_)|(apply OKx_gn; refine OKx_inc (a := num % 20) rfl rfl (by omega) ?_)|(refine OKx_buildG [(0, .int .i64 10)] #[.int .i64 10, .int .i64 0, .string ⟨#[]⟩, .slice none 0 0] rfl (exp_build1 10) ?_)|(refine OKx_buildG [(0, .int .i64 4)] #[.int .i64 4, .int .i64 0, .string ⟨#[]⟩, .slice none 0 0] rfl (exp_build1 4) ?_)|(apply OKx_gc 20;exact rfl; refine OKx_callV (f := 20) rfl rfl rfl (fun w1 hp => more_sat _ _ w1) ?_)|(apply OKx_gc 18;exact rfl; refine OKx_callV (f := 18) rfl rfl rfl (fun w1 hp => cX w1 _ _ hp.below ((hp.boxAt 2 rfl).1 0) ((hp.boxAt 1 rfl).1 0)) ?_)|(apply OKx_gc 18;exact rfl; refine OKx_callV (f := 18) rfl rfl rfl (fun w1 hp => c5 w1 _ _ hp.below ((hp.boxAt 2 rfl).1 0) ((hp.boxAt 1 rfl).1 0)) ?_)|(apply OKx_gc 18;exact rfl; refine OKx_callV (f := 18) rfl rfl rfl (fun w1 hp => c6 w1 _ _ hp.below ((hp.boxAt 2 rfl).1 0) ((hp.boxAt 1 rfl).1 0)) ?_)|(apply OKx_gc 18;exact rfl; refine OKx_callV (f := 18) rfl rfl rfl (fun w1 hp => c7 w1 _ _ hp.below ((hp.boxAt 2 rfl).1 0) ((hp.boxAt 1 rfl).1 0)) ?_)|(apply OKx_gc 18;exact rfl; refine OKx_callV (f := 18) rfl rfl rfl (fun w1 hp => c10 w1 _ _ hp.below ((hp.boxAt 2 rfl).1 0) ((hp.boxAt 1 rfl).1 0)) ?_)|(apply OKx_gc 18;exact rfl; refine OKx_callV (f := 18) rfl rfl rfl (fun w1 hp => c4 w1 _ _ hp.below ((hp.boxAt 2 rfl).1 0) ((hp.boxAt 1 rfl).1 0)) ?_)|(apply OKx_nilK)|(apply OK_block)|(apply blockQ_n)|(apply blockQ_s)|(apply thenQ_e)|(apply blockQ_e;exact rfl)|(apply thenQ_r)|(apply blockQ_r)|(apply OK_condT;exact rfl)|(apply OK_condF;exact rfl)|(apply OK_skip)|(apply OK_exit)|(apply OK_ret)|(apply OKx_move;(conv=>lhs;whnf)<;>exact rfl)|(apply OKx_assign;(conv=>lhs;whnf)<;>exact rfl)|(apply OKx_ldB;exact rfl;(first | exact at0|exact at1|exact at2|exact at3|exact at4|exact at5|exact at6|exact at7);exact rfl)|(apply OKx_ldR;(conv=>lhs;whnf)<;>exact rfl;(with_reducible assumption))|(apply OKx_len;exact rfl)|(apply OKx_lenR;(conv=>lhs;whnf)<;>exact rfl;(with_reducible assumption))|(apply OKx_lenR2;(conv=>lhs;whnf)<;>exact rfl;(with_reducible assumption))|(apply OKx_lenO;(conv=>lhs;whnf)<;>exact rfl;(first | exact at0|exact at1|exact at2|exact at3|exact at4|exact at5|exact at6|exact at7))|(apply OKx_inc;exact rfl;exact rfl;omega)|(apply OKx_addN;exact rfl;exact rfl;omega)|(apply OKx_add;exact rfl;exact rfl;omega;omega)|(apply OKx_pickT;exact rfl;(conv=>lhs;whnf)<;>exact rfl)|(apply OKx_pickF;exact rfl;(conv=>lhs;whnf)<;>exact rfl)|(apply OKx_guardT;exact rfl;exact rfl)|(apply OKx_guardF;exact rfl;exact rfl)|(apply OKx_guardU;exact rfl;exact rfl)|(apply OKx_notT;exact rfl)|(apply OKx_notF;exact rfl)|(apply OKx_boxA;exact rfl;intro _)|(apply OKx_ldBA;exact rfl;(first | exact at0|exact at1|exact at2|exact at3|exact at4|exact at5|exact at6|exact at7);exact rfl)|(apply OKx_ldRA;(conv=>lhs;whnf)<;>exact rfl;(with_reducible assumption))|(apply OKx_slit1;(conv=>lhs;whnf)<;>exact rfl;exact rfl;intro _)|(apply OKx_box1;(conv=>lhs;whnf)<;>exact rfl;exact rfl;intro _)|(apply OKx_func;exact rfl;exact rfl))
  all_goals (try (exfalso;omega))
  refine bodyQ_r1 (by ((conv=>lhs;whnf)<;>exact rfl)) ?_
  exact ⟨_, Ent.nil, rfl, rfl⟩
end Go.Proofs.YthnlnffmmioapaaDoor
namespace Go.Proofs.YthnlnffmmioapaaDoor
open Go.RowKit Go.Deep Go.WideShapes
section
variable {H : Type} {enc : TypeId × Value → H} {W : World}
def Light (t : TypeId) (d : DataW H) : Prop := ∀ n ∈ d.weights Tryd.prog t, n ≤ 140737488355328
theorem light_all {e : TypeId} {els : List (DataW H)} {d : DataW H} (hd : d ∈ els) {n : Nat} (hn : n ∈ d.weights Tryd.prog e) : n ∈ DataW.weightsAll Tryd.prog e els := by
  induction els with
  | nil => simp at hd
  | cons a r ih =>
    simp only [DataW.weightsAll, List.mem_append]
    rcases List.mem_cons.1 hd with rfl | h
    · exact .inl hn
    · exact .inr (ih h)
theorem light_slice {t e : TypeId} {els sp : List (DataW H)} (hu : Tryd.prog.underlying t = some (.slice e)) (h : Light t (.slice els sp)) : (els.length + sp.length) * Tryd.prog.bytesOf e ≤ 140737488355328 ∧ ∀ d ∈ els, Light e d := by
  unfold Light at *
  simp only [DataW.weights, hu] at h
  exact ⟨h _ (by simp), fun d hd n hn => h n (by simp [light_all hd hn])⟩
theorem light_agg {t : TypeId} {fs : Array Field} {parts : List (DataW H)} (hu : Tryd.prog.underlying t = some (.struct fs)) (h : Light t (.agg parts)) (j : Nat) {ty : TypeId} {d : DataW H} (h1 : (fs.toList.map (·.type))[j]? = some ty) (h2 : parts[j]? = some d) : Light ty d := by
  intro n hn
  refine h n ?_
  simp only [DataW.weights, hu]
  exact DataW.weights_mem_each h1 h2 n hn
theorem light_each {ts : List TypeId} {ds : List (DataW H)} (h : (DataW.weightsEach Tryd.prog ts ds).all (· ≤ reachBytes) = true) (j : Nat) {t : TypeId} {d : DataW H} (h1 : ts[j]? = some t) (h2 : ds[j]? = some d) : Light t d := by
  intro n hn
  have : n ≤ reachBytes := by simpa using List.all_eq_true.1 h _ (DataW.weights_mem_each h1 h2 n hn)
  have r : reachBytes = 140737488351232 := rfl
  omega
theorem light_string {t : TypeId} {b : List UInt8} (h : Light t (.lit (.string b) : DataW H)) : b.length ≤ 140737488355328 := h _ (by simp [DataW.weights])
theorem wf_range {z : Int} (h : (Lit.int .i64 z).wf = true) : -9223372036854775808 ≤ z ∧ z ≤ 9223372036854775807 := by
  have e1 : IntKind.i64.min = -9223372036854775808 := rfl
  have e2 : IntKind.i64.max = 9223372036854775807 := rfl
  simp only [Lit.wf, Bool.and_eq_true, decide_eq_true_eq] at h
  omega
theorem open_sl2 {t e : TypeId} {fuel sz : Nat} {v : Value} {x : DataW H × List MemPlace} (ht : Tryd.prog.underlying t = some (.slice e)) (hc : Tryd.prog.cellsOf e = sz) (hsz : 0 < sz) (hb : 0 < Tryd.prog.bytesOf e)
    (h : DataW.trod enc Tryd.prog W 0 (fun _ => true) true fuel t [v] = some x) (hw : Light t x.1) :
    ∃ (n m : Nat) (C : Nat → List Value) (D : Nat → DataW H) (Q : Nat → List MemPlace), Sl2 W v sz n (fun j c => (C j).getD c undef) ∧ (∀ a k c, v = .slice a k c → k ≤ c) ∧
      ∀ i, i < n → (C i).length = sz ∧ DataW.trod enc Tryd.prog W 0 (fun _ => true) true m e (C i) = some (D i, Q i) ∧ Light e (D i) := by
  rcases open_slice ht h with ⟨h1, h2⟩ | ⟨a, len, cap, m, n, D, Q, h1, _, hl, hm, hmm, rfl, hx⟩
  · simp only [List.cons.injEq, and_true] at h1
    subst h1; subst h2
    refine ⟨0, 0, fun _ => [], fun _ => .nil, fun _ => [], ⟨by omega, none, 0, rfl, .inl rfl⟩, ?_, fun i hi => absurd hi (by omega)⟩
    intro a k c e
    cases e; exact Nat.le_refl _
  · simp only [List.cons.injEq, and_true] at h1
    subst h1
    simp only [if_true] at hmm
    subst hmm
    obtain ⟨hw1, hw2⟩ := light_slice ht hw
    rw [hc] at hx
    have hx' : ∀ i, i < len → ∃ cs', W.cells? 0 (a.add (i * sz)) sz = some cs' ∧ DataW.trod enc Tryd.prog W 0 (fun _ => true) true n e cs' = some (D i, Q i) := fun i hi => hx i (by omega)
    obtain ⟨C, hC⟩ := choose_lt (α := List Value) hx'
    have hlen : len ≤ 140737488355328 := by
      have : len * 1 ≤ len * Tryd.prog.bytesOf e := Nat.mul_le_mul_left _ hb
      simp only [List.length_map, List.length_range] at hw1
      have h3 : len * Tryd.prog.bytesOf e ≤ (len + (m - len)) * Tryd.prog.bytesOf e := Nat.mul_le_mul_right _ (by omega)
      omega
    refine ⟨len, n, C, D, Q, ⟨hlen, some a, m, rfl, ?_⟩, ?_, fun i hi => ?_⟩
    · by_cases h0 : len = 0
      · exact .inl h0
      right
      obtain ⟨b, off, spot⟩ := a
      have hs : spot = none := by
        obtain ⟨_, h4, h5⟩ := World.cells?_some (hC 0 (by omega)).1
        have h6 := h5 0 hsz
        obtain ⟨u, hu⟩ : ∃ u, (C 0)[0]? = some u := ⟨_, List.getElem?_eq_getElem (by omega)⟩
        rw [hu] at h6
        simpa [Addr.add] using World.cell?_spot h6
      subst hs
      refine ⟨b, off, rfl, fun j hj c hcs => ?_⟩
      obtain ⟨_, h4, h5⟩ := World.cells?_some (hC j hj).1
      have h6 := h5 c hcs
      rw [add_plain, add_plain] at h6
      rw [h6]
      simp [h4, hcs]
    · intro a' k c e
      cases e; exact hl
    · obtain ⟨_, h4, h5⟩ := World.cells?_some (hC i hi).1
      refine ⟨h4, (hC i hi).2, hw2 _ ?_⟩
      exact List.mem_map.2 ⟨i, List.mem_range.2 hi, rfl⟩
theorem Sl2.flat {v : Value} {sz n : Nat} {g : Nat → Nat → Value} (h : Sl2 W v sz n g) (hr : ∀ a k c, v = .slice a k c → k ≤ c) (f : Nat → Value) (hf : ∀ j, j < n → ∀ c, c < sz → f (j * sz + c) = g j c) (hsz : 0 < sz) : Sl W v sz n f := by
  obtain ⟨h1, a, cap, rfl, h2⟩ := h
  refine ⟨h1, ⟨a, cap, rfl, ?_⟩, hr⟩
  rcases h2 with h0 | ⟨b, off, ha, hc⟩
  · exact .inl h0
  refine .inr ⟨b, off, ha, fun j hj => ?_⟩
  have h3 := Nat.div_add_mod j sz
  have h4 := Nat.mod_lt j hsz
  have h5 : j / sz < n := (Nat.div_lt_iff_lt_mul hsz).2 hj
  have h6 := hc (j / sz) h5 (j % sz) h4
  have h7 := hf (j / sz) h5 (j % sz) h4
  have h8 : j / sz * sz + j % sz = j := by rw [Nat.mul_comm]; exact h3
  rw [Nat.add_assoc, h8] at h6
  rw [h8] at h7
  rw [h6, h7]
theorem open_sl {t e : TypeId} {fuel : Nat} {v : Value} {x : DataW H × List MemPlace} (ht : Tryd.prog.underlying t = some (.slice e)) (hc : Tryd.prog.cellsOf e = 1) (hb : 0 < Tryd.prog.bytesOf e)
    (h : DataW.trod enc Tryd.prog W 0 (fun _ => true) true fuel t [v] = some x) (hw : Light t x.1) :
    ∃ (n m : Nat) (V : Nat → Value) (D : Nat → DataW H) (Q : Nat → List MemPlace), Sl W v 1 n V ∧
      ∀ i, i < n → DataW.trod enc Tryd.prog W 0 (fun _ => true) true m e [V i] = some (D i, Q i) ∧ Light e (D i) := by
  obtain ⟨n, m, C, D, Q, h1, h2, h3⟩ := open_sl2 ht hc (by decide) hb h hw
  refine ⟨n, m, fun j => (C j).getD 0 undef, D, Q, h1.flat h2 _ (fun j hj c hcs => ?_) (by decide), fun i hi => ?_⟩
  · obtain rfl : c = 0 := by omega
    simp
  · obtain ⟨h4, h5, h6⟩ := h3 i hi
    refine ⟨?_, h6⟩
    match hCi : C i, h4 with
    | [u], _ => rw [hCi] at h5; simpa [hCi] using h5
theorem range_getD {α : Type} (n : Nat) (f : Nat → α) (d : α) (j : Nat) (h : j < n) : ((List.range n).map f).getD j d = f j := by simp [h]
theorem Ints.open {fuel : Nat} {v : Value} {x : DataW H × List MemPlace} (h : DataW.trod enc Tryd.prog W 0 (fun _ => true) true fuel 26 [v] = some x) (hw : Light 26 x.1) :
    ∃ xs : List Int, Ints W v xs ∧ ∀ i ∈ xs, -9223372036854775808 ≤ i ∧ i ≤ 9223372036854775807 := by
  obtain ⟨n, m, V, D, Q, h1, h2⟩ := open_sl Tryd.underlying26 (by kernel_rfl) (of_decide_eq_true (by kernel_rfl)) h hw
  obtain ⟨Z, hZ⟩ := choose_lt (α := Int) (p := fun i z => V i = .int .i64 z ∧ -9223372036854775808 ≤ z ∧ z ≤ 9223372036854775807) (fun i hi => by
    obtain ⟨z, h4, _, h5⟩ := DataW.trod_int Tryd.underlying3 (h2 i hi).1
    refine ⟨z, by simpa using h4, ?_⟩
    have e1 : IntKind.i64.min = -9223372036854775808 := rfl
    have e2 : IntKind.i64.max = 9223372036854775807 := rfl
    simp only [Lit.wf, Bool.and_eq_true, decide_eq_true_eq] at h5
    omega)
  refine ⟨(List.range n).map Z, ?_, ?_⟩
  · unfold Ints
    rw [List.length_map, List.length_range]
    exact h1.congr fun j hj => (hZ j (by omega)).1.trans (by rw [range_getD _ _ _ _ (by omega)])
  · intro i hi
    obtain ⟨j, hj, rfl⟩ := List.mem_map.1 hi
    exact (hZ j (List.mem_range.1 hj)).2
theorem Strs.open {fuel : Nat} {v : Value} {x : DataW H × List MemPlace} (h : DataW.trod enc Tryd.prog W 0 (fun _ => true) true fuel 25 [v] = some x) (hw : Light 25 x.1) :
    ∃ xs : List ByteArray, Strs W v xs := by
  obtain ⟨n, m, V, D, Q, h1, h2⟩ := open_sl Tryd.underlying25 (by kernel_rfl) (of_decide_eq_true (by kernel_rfl)) h hw
  obtain ⟨Z, hZ⟩ := choose_lt (α := ByteArray) (p := fun i z => V i = .string z ∧ z.size ≤ 140737488355328) (fun i hi => by
    obtain ⟨h3, h4⟩ := h2 i hi
    obtain ⟨z, h5, h6, _⟩ := DataW.trod_string Tryd.underlying9 h3
    simp only [Prod.mk.injEq] at h6
    rw [h6.1] at h4
    exact ⟨z, by simpa using h5, by simpa using light_string h4⟩)
  refine ⟨(List.range n).map Z, ?_, ?_⟩
  · rw [List.length_map, List.length_range]
    exact h1.congr fun j hj => (hZ j (by omega)).1.trans (by rw [range_getD _ _ _ _ (by omega)])
  · intro i hi
    obtain ⟨j, hj, rfl⟩ := List.mem_map.1 hi
    exact (hZ j (List.mem_range.1 hj)).2
end
section
variable {H : Type} {enc : TypeId × Value → H} {W : World}
theorem one_cell {v : Value} (ho : ∃ a n c, v = .slice a n c) : v.cells.toList = [v] := by obtain ⟨a, n, c, rfl⟩ := ho; rfl
theorem Ints.openT {v : Value} {d : DataW H} {ps : List MemPlace} (ho : ∃ a n c, v = .slice a n c) (h : DataW.Trod enc Tryd.prog W 0 (fun _ => true) true 26 v d ps) (hw : Light 26 d) :
    ∃ xs : List Int, Ints W v xs ∧ ∀ i ∈ xs, -9223372036854775808 ≤ i ∧ i ≤ 9223372036854775807 := by
  obtain ⟨fuel, h⟩ := h
  rw [one_cell ho] at h
  exact Ints.open h hw
theorem u8.openT {v : Value} {d : DataW H} {ps : List MemPlace} (h : ∃ n, v = .int .u8 n ∧ d = .lit (.int .u8 n) ∧ ps = [] ∧ (Lit.int .u8 n).wf = true) : ∃ n : Int, v = .int .u8 n ∧ 0 ≤ n ∧ n ≤ 255 := by
  obtain ⟨n, rfl, _, _, hw⟩ := h
  have e1 : IntKind.u8.min = 0 := rfl
  have e2 : IntKind.u8.max = 255 := rfl
  simp only [Lit.wf, Bool.and_eq_true, decide_eq_true_eq] at hw
  exact ⟨n, rfl, by omega, by omega⟩
theorem int.openT {v : Value} {d : DataW H} {ps : List MemPlace} (h : ∃ n, v = .int .i64 n ∧ d = .lit (.int .i64 n) ∧ ps = [] ∧ (Lit.int .i64 n).wf = true) : ∃ n : Int, v = .int .i64 n ∧ -9223372036854775808 ≤ n ∧ n ≤ 9223372036854775807 := by
  obtain ⟨n, rfl, _, _, hw⟩ := h
  exact ⟨n, rfl, wf_range hw⟩
theorem again_all (hl : laidOutB Tryd.prog = true) {W' : World} (hb : Below W.heap.size W W') : ∀ {ts : List TypeId} {vs : List Value} {ds : List (DataW H)} {ps : List MemPlace},
    (ts.all fun t => Tryd.prog.readableRec t && decide (t < Tryd.prog.types.size)) = true → DataW.TrodAll enc Tryd.prog W 0 (fun _ => true) true ts vs ds ps → (∀ x ∈ ps, x.block < W.heap.size) →
    DataW.TrodAll enc Tryd.prog W' 0 (fun b => decide (b < W.heap.size)) true ts vs ds ps := by
  intro ts
  induction ts with
  | nil => intro vs ds ps _ h _; obtain ⟨rfl, rfl, rfl⟩ := Go.ChangeShapes.trodAll_nil h; rfl
  | cons t ts ih =>
    intro vs ds ps ht h hlt
    obtain ⟨v, vs', d, ds', p, q, rfl, rfl, rfl, h1, h2⟩ := Go.ChangeShapes.trodAll_cons h
    simp only [List.all_cons, Bool.and_eq_true, decide_eq_true_eq] at ht
    exact ⟨p, q, Below.trod hl ht.1.1 ht.1.2 h1 hb (fun x hx => hlt x (List.mem_append_left _ hx)), ih (by simpa using ht.2) h2 (fun x hx => hlt x (List.mem_append_right _ hx)), rfl⟩
end
end Go.Proofs.YthnlnffmmioapaaDoor
namespace Go.Proofs.YthnlnffmmioapaaDoor
open Go.RowKit Go.Deep Go.WideShapes
variable {H : Type} {enc : TypeId × Value → H} {W : World}
theorem Str.openT {v : Value} {d : DataW H} {ps : List MemPlace} {t : TypeId} (h : ∃ s : ByteArray, v = .string s ∧ d = .lit (.string s.data.toList) ∧ ps = [] ∧ s.size ≤ maxLen) (hw : Light t d) : ∃ s : ByteArray, v = .string s ∧ s.size ≤ 140737488355328 := by
  obtain ⟨s, rfl, rfl, _, _⟩ := h
  exact ⟨s, rfl, by simpa using light_string hw⟩
end Go.Proofs.YthnlnffmmioapaaDoor
namespace Go.Proofs.YthnlnffmmioapaaDoor
open Go.RowKit Go.Deep Go.WideShapes Go.ChangeShapes
theorem Exps.mk {w : World} {g : Nat → Nat → Value} : ∀ {xs : List Cnd} {i : Nat}, (∀ j, (h : j < xs.length) → Exp w xs[j] (.agg #[g (i + j) 0, g (i + j) 1, g (i + j) 2, g (i + j) 3])) → Exps w xs g i
  | [], _, _ => by unfold Exps; trivial
  | x :: xs, i, h => by
    unfold Exps
    refine ⟨h 0 (by simp), Exps.mk fun j hj => ?_⟩
    have := h (j + 1) (by simpa using hj)
    rw [show i + (j + 1) = i + 1 + j by omega] at this
    exact this
section
variable {H : Type} {enc : TypeId × Value → H} {W : World}
theorem open_sl2s {t e : TypeId} {fuel sz : Nat} {v : Value} {x : DataW H × List MemPlace} (ht : Tryd.prog.underlying t = some (.slice e)) (hc : Tryd.prog.cellsOf e = sz) (hsz : 0 < sz) (hb : 0 < Tryd.prog.bytesOf e)
    (h : DataW.trod enc Tryd.prog W 0 (fun _ => true) true fuel t [v] = some x) (hw : Light t x.1) :
    ∃ (n m : Nat) (C : Nat → List Value) (D : Nat → DataW H) (Q : Nat → List MemPlace), Sl2 W v sz n (fun j c => (C j).getD c undef) ∧ (∀ a k c, v = .slice a k c → k ≤ c) ∧
      ∀ i, i < n → (C i).length = sz ∧ DataW.trod enc Tryd.prog W 0 (fun _ => true) true m e (C i) = some (D i, Q i) ∧ Light e (D i) ∧ SizeOf.sizeOf (D i) < SizeOf.sizeOf x.1 := by
  rcases open_slice ht h with ⟨h1, h2⟩ | ⟨a, len, cap, m, n, D, Q, h1, _, hl, hm, hmm, rfl, hx⟩
  · simp only [List.cons.injEq, and_true] at h1
    subst h1; subst h2
    refine ⟨0, 0, fun _ => [], fun _ => .nil, fun _ => [], ⟨by omega, none, 0, rfl, .inl rfl⟩, ?_, fun i hi => absurd hi (by omega)⟩
    intro a k c e
    cases e; exact Nat.le_refl _
  · simp only [List.cons.injEq, and_true] at h1
    subst h1
    simp only [if_true] at hmm
    subst hmm
    obtain ⟨hw1, hw2⟩ := light_slice ht hw
    rw [hc] at hx
    have hx' : ∀ i, i < len → ∃ cs', W.cells? 0 (a.add (i * sz)) sz = some cs' ∧ DataW.trod enc Tryd.prog W 0 (fun _ => true) true n e cs' = some (D i, Q i) := fun i hi => hx i (by omega)
    obtain ⟨C, hC⟩ := choose_lt (α := List Value) hx'
    have hlen : len ≤ 140737488355328 := by
      have : len * 1 ≤ len * Tryd.prog.bytesOf e := Nat.mul_le_mul_left _ hb
      simp only [List.length_map, List.length_range] at hw1
      have h3 : len * Tryd.prog.bytesOf e ≤ (len + (m - len)) * Tryd.prog.bytesOf e := Nat.mul_le_mul_right _ (by omega)
      omega
    refine ⟨len, n, C, D, Q, ⟨hlen, some a, m, rfl, ?_⟩, ?_, fun i hi => ?_⟩
    · by_cases h0 : len = 0
      · exact .inl h0
      right
      obtain ⟨b, off, spot⟩ := a
      have hs : spot = none := by
        obtain ⟨_, h4, h5⟩ := World.cells?_some (hC 0 (by omega)).1
        have h6 := h5 0 hsz
        obtain ⟨u, hu⟩ : ∃ u, (C 0)[0]? = some u := ⟨_, List.getElem?_eq_getElem (by omega)⟩
        rw [hu] at h6
        simpa [Addr.add] using World.cell?_spot h6
      subst hs
      refine ⟨b, off, rfl, fun j hj c hcs => ?_⟩
      obtain ⟨_, h4, h5⟩ := World.cells?_some (hC j hj).1
      have h6 := h5 c hcs
      rw [add_plain, add_plain] at h6
      rw [h6]
      simp [h4, hcs]
    · intro a' k c e
      cases e; exact hl
    · obtain ⟨_, h4, h5⟩ := World.cells?_some (hC i hi).1
      have hin : D i ∈ (List.range len).map D := List.mem_map.2 ⟨i, List.mem_range.2 hi, rfl⟩
      refine ⟨h4, (hC i hi).2, hw2 _ hin, ?_⟩
      have h7 := List.sizeOf_lt_of_mem hin
      show SizeOf.sizeOf (D i) < SizeOf.sizeOf (DataW.slice _ _)
      rw [DataW.slice.sizeOf_spec]
      omega
theorem Exp.open_n : ∀ (k : Nat) {fuel : Nat} {a b c d : Value} {x : DataW H × List MemPlace}, SizeOf.sizeOf x.1 ≤ k → DataW.trod enc Tryd.prog W 0 (fun _ => true) true fuel 24 [a, b, c, d] = some x → Light 24 x.1 → ∃ e, Exp W e (.agg #[a, b, c, d])
  | 0, _, _, _, _, _, x, hk, _, _ => by
    have : 0 < SizeOf.sizeOf x.1 := by cases x.1 <;> simp <;> omega
    omega
  | k + 1, fuel, a, b, c, d, x, hk, h, hw => by
    obtain ⟨y0, y1, y2, y3, n, e, _, g0, g1, g2, g3⟩ := Go.Joins.trod_struct4 Tryd.underlying24 h
    have c1 : Tryd.prog.cellsOf 3 = 1 := by kernel_rfl
    have c2 : Tryd.prog.cellsOf 9 = 1 := by kernel_rfl
    have c3 : Tryd.prog.cellsOf 22 = 1 := by kernel_rfl
    simp only [c1, c2, c3, List.drop_zero, List.drop_succ_cons, List.take_succ_cons, List.take_zero] at g0 g1 g2 g3
    subst e
    obtain ⟨z0, e0, _, _⟩ := DataW.trod_int Tryd.underlying3 g0
    obtain ⟨z1, e1, _, _⟩ := DataW.trod_int Tryd.underlying3 g1
    obtain ⟨s, e2, h6, _⟩ := DataW.trod_string Tryd.underlying9 g2
    have l2 := light_agg Tryd.underlying24 hw 2 rfl rfl
    have l3 := light_agg Tryd.underlying24 hw 3 rfl rfl
    subst h6
    simp only [List.cons.injEq, and_true] at e0 e1 e2
    subst e0; subst e1; subst e2
    obtain ⟨N, m, C, D, Q, h1, hr, h2⟩ := open_sl2s Tryd.underlying22 (sz := 4) (by kernel_rfl) (by decide) (of_decide_eq_true (by kernel_rfl)) g3 l3
    have hsz : SizeOf.sizeOf y3.1 ≤ k := by
      have : SizeOf.sizeOf (DataW.agg [y0.1, y1.1, (DataW.lit (.string s.data.toList) : DataW H), y3.1]) ≤ k + 1 := hk
      rw [DataW.agg.sizeOf_spec] at this
      simp only [List.cons.sizeOf_spec, List.nil.sizeOf_spec] at this
      omega
    obtain ⟨Z, hZ⟩ := choose_lt (α := Cnd) (p := fun i z => Exp W z (.agg #[(C i).getD 0 undef, (C i).getD 1 undef, (C i).getD 2 undef, (C i).getD 3 undef])) (fun i hi => by
      obtain ⟨h3, h4, h5, h7⟩ := h2 i hi
      generalize C i = ci at h3 h4 ⊢
      match ci, h3, h4 with
      | [a', b', c', d'], _, h4 =>
        exact Exp.open_n k (by show SizeOf.sizeOf (D i) ≤ k;omega) h4 h5)
    refine ⟨.mk z0 z1 s ((List.range N).map Z), ?_⟩
    unfold Exp
    refine ⟨d, _, rfl, by simpa using light_string l2, by rw [List.length_map, List.length_range]; exact h1, Exps.mk fun j hj => ?_⟩
    have hj' : j < N := by simpa using hj
    rw [Nat.zero_add]
    simpa using hZ j hj'
theorem Exp.open {v : Value} {d : DataW H} {ps : List MemPlace} (ho : ∃ cs, v = .agg cs ∧ cs.size = Tryd.prog.cellsOf 24) (h : DataW.Trod enc Tryd.prog W 0 (fun _ => true) true 24 v d ps) (hw : Light 24 d) :
    ∃ x, Exp W x v := by
  obtain ⟨⟨cl⟩, rfl, hsz⟩ := ho
  have hC : Tryd.prog.cellsOf 24 = 4 := by kernel_rfl
  rw [hC] at hsz
  obtain ⟨fuel, h⟩ := h
  match cl, hsz with
  | [a, b, c, e], _ => exact Exp.open_n _ (Nat.le_refl _) h hw
theorem Rdn.open_n {fuel : Nat} {a b : Value} {x : DataW H × List MemPlace} (h : DataW.trod enc Tryd.prog W 0 (fun _ => true) true fuel 28 [a, b] = some x) (hw : Light 28 x.1) : ∃ r, RdnV W r (.agg #[a, b]) := by
  obtain ⟨y0, y1, n, e, _, h0, h1⟩ := trod_struct2 Tryd.underlying28 h
  subst e
  have c1 : Tryd.prog.cellsOf 26 = 1 := by kernel_rfl
  have c2 : Tryd.prog.cellsOf 25 = 1 := by kernel_rfl
  simp only [c1, c2, List.drop_zero, List.drop_succ_cons, List.take_succ_cons, List.take_zero] at h0 h1
  obtain ⟨xs, hx⟩ := Strs.open h0 (light_agg Tryd.underlying28 hw 0 rfl rfl)
  obtain ⟨ys, hy, _⟩ := Ints.open h1 (light_agg Tryd.underlying28 hw 1 rfl rfl)
  exact ⟨⟨xs, ys⟩, a, b, rfl, hx, hy⟩
theorem Rdns.open {fuel : Nat} {v : Value} {x : DataW H × List MemPlace} (h : DataW.trod enc Tryd.prog W 0 (fun _ => true) true fuel 30 [v] = some x) (hw : Light 30 x.1) : ∃ l, Rdns W v l := by
  obtain ⟨N, m, C, D, Q, h1, hr, h2⟩ := open_sl2 Tryd.underlying30 (sz := 2) (by kernel_rfl) (by decide) (of_decide_eq_true (by kernel_rfl)) h hw
  obtain ⟨Z, hZ⟩ := choose_lt (α := Rdn) (p := fun i z => RdnV W z (.agg #[(C i).getD 0 undef, (C i).getD 1 undef])) (fun i hi => by
    obtain ⟨h3, h4, h5⟩ := h2 i hi
    generalize C i = ci at h3 h4 ⊢
    match ci, h3, h4 with
    | [a', b'], _, h4 => exact Rdn.open_n h4 h5)
  refine ⟨(List.range N).map Z, _, by rw [List.length_map, List.length_range]; exact h1, fun j hj => ?_⟩
  have hj' : j < N := by simpa using hj
  simpa using hZ j hj'
theorem Ruls.open {fuel : Nat} {v : Value} {x : DataW H × List MemPlace} (h : DataW.trod enc Tryd.prog W 0 (fun _ => true) true fuel 41 [v] = some x) (hw : Light 41 x.1) : ∃ l, Ruls W v l := by
  obtain ⟨N, m, C, D, Q, h1, hr, h2⟩ := open_sl2 Tryd.underlying41 (sz := 5) (by kernel_rfl) (by decide) (of_decide_eq_true (by kernel_rfl)) h hw
  obtain ⟨Z, hZ⟩ := choose_lt (α := Rul) (p := fun i z => RulV W z (.agg #[(C i).getD 0 undef, (C i).getD 1 undef, (C i).getD 2 undef, (C i).getD 3 undef, (C i).getD 4 undef])) (fun i hi => by
    obtain ⟨h3, h4, h5⟩ := h2 i hi
    generalize C i = ci at h3 h4 ⊢
    match ci, h3, h4 with
    | [a', b', c', d', e'], _, h4 =>
      obtain ⟨y0, y1, n, e, _, g0, g1⟩ := trod_struct2 Tryd.underlying57 h4
      have c2 : Tryd.prog.cellsOf 9 = 1 := by kernel_rfl
      have c4 : Tryd.prog.cellsOf 24 = 4 := by kernel_rfl
      simp only [c2, c4, List.drop_zero, List.drop_succ_cons, List.take_succ_cons, List.take_zero] at g0 g1
      obtain ⟨s, e2, h6, _⟩ := DataW.trod_string Tryd.underlying9 g0
      simp only [Prod.mk.injEq] at e
      rw [e.1] at h5
      have l0 := light_agg Tryd.underlying57 h5 0 rfl rfl
      have l1 := light_agg Tryd.underlying57 h5 1 rfl rfl
      subst h6
      simp only [List.cons.injEq, and_true] at e2
      subst e2
      obtain ⟨q, hq⟩ := Exp.open_n _ (Nat.le_refl _) g1 l1
      exact ⟨⟨s, q⟩, b', c', d', e', rfl, hq, by simpa using light_string l0⟩)
  refine ⟨(List.range N).map Z, _, by rw [List.length_map, List.length_range]; exact h1, fun j hj => ?_, hr⟩
  have hj' : j < N := by simpa using hj
  simpa using hZ j hj'
theorem Unis.open {fuel : Nat} {v : Value} {x : DataW H × List MemPlace} (h : DataW.trod enc Tryd.prog W 0 (fun _ => true) true fuel 60 [v] = some x) (hw : Light 60 x.1) : ∃ l, Unis W v l := by
  obtain ⟨N, m, C, D, Q, h1, hr, h2⟩ := open_sl2 Tryd.underlying60 (sz := 3) (by kernel_rfl) (by decide) (of_decide_eq_true (by kernel_rfl)) h hw
  obtain ⟨Z, hZ⟩ := choose_lt (α := List Rdn) (p := fun i z => UniV W z (.agg #[(C i).getD 0 undef, (C i).getD 1 undef, (C i).getD 2 undef])) (fun i hi => by
    obtain ⟨h3, h4, h5⟩ := h2 i hi
    generalize C i = ci at h3 h4 ⊢
    match ci, h3, h4 with
    | [a', b', c'], _, h4 =>
      obtain ⟨y0, y1, y2, n, e, _, g0, g1, g2⟩ := trod_struct3 Tryd.underlying53 h4
      have c1 : Tryd.prog.cellsOf 3 = 1 := by kernel_rfl
      have c2 : Tryd.prog.cellsOf 30 = 1 := by kernel_rfl
      simp only [c1, c2, List.drop_zero, List.drop_succ_cons, List.take_succ_cons, List.take_zero] at g0 g1 g2
      simp only [Prod.mk.injEq] at e
      rw [e.1] at h5
      obtain ⟨l, hl⟩ := Rdns.open g2 (light_agg Tryd.underlying53 h5 2 rfl rfl)
      exact ⟨l, a', b', c', rfl, hl⟩)
  refine ⟨(List.range N).map Z, _, by rw [List.length_map, List.length_range]; exact h1, fun j hj => ?_⟩
  have hj' : j < N := by simpa using hj
  simpa using hZ j hj'
theorem Wtb.open {fuel : Nat} {v : Value} {x : DataW H × List MemPlace} (h : DataW.trod enc Tryd.prog W 0 (fun _ => true) true fuel 62 [v] = some x) (hw : Light 62 x.1) : ∃ l, Wtb W v l := by
  obtain ⟨n, m, V, D, Q, h1, h2⟩ := open_sl Tryd.underlying62 (by kernel_rfl) (of_decide_eq_true (by kernel_rfl)) h hw
  obtain ⟨Z, hZ⟩ := choose_lt (α := List ByteArray) (p := fun i z => Strs W (V i) z) (fun i hi => Strs.open (h2 i hi).1 (h2 i hi).2)
  refine ⟨(List.range n).map Z, V, by rw [List.length_map, List.length_range]; exact h1, fun j hj => ?_⟩
  have hj' : j < n := by simpa using hj
  simpa using hZ j hj'
theorem RdnV.openT {v : Value} {d : DataW H} {ps : List MemPlace} (ho : ∃ cs, v = .agg cs ∧ cs.size = Tryd.prog.cellsOf 28) (h : DataW.Trod enc Tryd.prog W 0 (fun _ => true) true 28 v d ps) (hw : Light 28 d) : ∃ r, RdnV W r v := by
  obtain ⟨⟨cl⟩, rfl, hsz⟩ := ho
  have hC : Tryd.prog.cellsOf 28 = 2 := by kernel_rfl
  rw [hC] at hsz
  obtain ⟨fuel, h⟩ := h
  match cl, hsz with
  | [a, b], _ => exact Rdn.open_n h hw
theorem Rdns.openT {v : Value} {d : DataW H} {ps : List MemPlace} (ho : ∃ a n c, v = .slice a n c) (h : DataW.Trod enc Tryd.prog W 0 (fun _ => true) true 30 v d ps) (hw : Light 30 d) : ∃ l, Rdns W v l := by
  obtain ⟨fuel, h⟩ := h
  rw [one_cell ho] at h
  exact Rdns.open h hw
theorem Ruls.openT {v : Value} {d : DataW H} {ps : List MemPlace} (ho : ∃ a n c, v = .slice a n c) (h : DataW.Trod enc Tryd.prog W 0 (fun _ => true) true 41 v d ps) (hw : Light 41 d) : ∃ l, Ruls W v l := by
  obtain ⟨fuel, h⟩ := h
  rw [one_cell ho] at h
  exact Ruls.open h hw
theorem Unis.openT {v : Value} {d : DataW H} {ps : List MemPlace} (ho : ∃ a n c, v = .slice a n c) (h : DataW.Trod enc Tryd.prog W 0 (fun _ => true) true 60 v d ps) (hw : Light 60 d) : ∃ l, Unis W v l := by
  obtain ⟨fuel, h⟩ := h
  rw [one_cell ho] at h
  exact Unis.open h hw
theorem Wtb.openT {v : Value} {d : DataW H} {ps : List MemPlace} (ho : ∃ a n c, v = .slice a n c) (h : DataW.Trod enc Tryd.prog W 0 (fun _ => true) true 62 v d ps) (hw : Light 62 d) : ∃ l, Wtb W v l := by
  obtain ⟨fuel, h⟩ := h
  rw [one_cell ho] at h
  exact Wtb.open h hw
end
end Go.Proofs.YthnlnffmmioapaaDoor
namespace Go.Proofs.YthnlnffmmioapaaDoor
open Go.RowKit Go.Deep Go.WideShapes
variable {H : Type} {enc : TypeId × Value → H} {W : World}
theorem Strs.openT {v : Value} {d : DataW H} {ps : List MemPlace} (ho : ∃ a n c, v = .slice a n c) (h : DataW.Trod enc Tryd.prog W 0 (fun _ => true) true 25 v d ps) (hw : Light 25 d) : ∃ xs : List ByteArray, Strs W v xs := by
  obtain ⟨fuel, h⟩ := h
  rw [one_cell ho] at h
  exact Strs.open h hw
end Go.Proofs.YthnlnffmmioapaaDoor
