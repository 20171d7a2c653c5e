/-
  Part 25 of the proof: Lg27, Open, OpenS. No statement of the seat is proved here.
-/
import Derived.Test.YthnlnffmmioapaaDoorMHLo2724
import Derived.ProofKit
import Derived.SizedLaws
import Derived.Deep.Strs
import Derived.ChangeMaps5
namespace Go.Proofs.YthnlnffmmioapaaDoor
open Go.RowKit
theorem exps_one {w : World} {g : Nat} {x : Cnd} {xs : List Value} (hl : xs.length = 4) (hs : Sl2 w (.slice (some ⟨g, 0, none⟩) 1 1) 4 1 (fun j c => xs.getD (j * 4 + c) undef)) (hX : Exp w x (.agg xs.toArray)) : ∀ j, (h : j < [x].length) → Exp w [x][j] (.agg #[xs.getD (j * 4 + 0) undef, xs.getD (j * 4 + 1) undef, xs.getD (j * 4 + 2) undef, xs.getD (j * 4 + 3) undef]) := fun j hj => by
  obtain rfl : j = 0 := by simp at hj;omega
  match xs, hl with
  | [_, _, _, _], _ => exact hX
theorem exps_two {w : World} {x y : Cnd} {a b c d e f g h : Value} (hX : Exp w x (.agg #[a, b, c, d])) (hY : Exp w y (.agg #[e, f, g, h])) : ∀ j, (hj : j < [x, y].length) → Exp w [x, y][j] (.agg #[[a, b, c, d, e, f, g, h].getD (j * 4 + 0) undef, [a, b, c, d, e, f, g, h].getD (j * 4 + 1) undef, [a, b, c, d, e, f, g, h].getD (j * 4 + 2) undef, [a, b, c, d, e, f, g, h].getD (j * 4 + 3) undef]) := fun j hj => by
  have : j = 0 ∨ j = 1 := by simp at hj;omega
  rcases this with rfl | rfl
  · exact hX
  · exact hY
theorem exp_parts {w : World} {k : Int} {pv : Value} {ps : List Cnd} {g : Nat → Nat → Value} (hs : Sl2 w pv 4 ps.length g) (hE : ∀ j, (h : j < ps.length) → Exp w ps[j] (.agg #[g j 0, g j 1, g j 2, g j 3])) : Exp w (.mk k 0 ⟨#[]⟩ ps) (.agg #[.int .i64 k, .int .i64 0, .string ⟨#[]⟩, pv]) := by
  unfold Exp
  refine ⟨_, g, rfl, by decide, hs, ?_⟩
  have key : ∀ (xs : List Cnd) (i : Nat), (∀ j, (h : j < xs.length) → Exp w xs[j] (.agg #[g (i + j) 0, g (i + j) 1, g (i + j) 2, g (i + j) 3])) → Exps w xs g i := fun xs => by
    induction xs with
    | nil => intro i _; unfold Exps; trivial
    | cons x xs ih =>
      intro i h
      unfold Exps
      refine ⟨h 0 (by simp), ih (i + 1) fun j hj => ?_⟩
      have := h (j + 1) (by simpa using hj)
      rw [show i + (j + 1) = i + 1 + j by omega] at this
      exact this
  refine key ps 0 fun j hj => ?_
  rw [Nat.zero_add]
  exact hE j hj
theorem exp_buildP (k : Int) (a : Option Addr) (n c : Nat) : Instr.fill ([(0, 1), (1, 1), (2, 1), (3, 1)].toArray[·]?) #[.int .i64 0, .int .i64 0, .string ⟨#[]⟩, .slice none 0 0] [(0, .int .i64 k), (3, .slice a n c)] = some #[.int .i64 k, .int .i64 0, .string ⟨#[]⟩, .slice a n c] := rfl
set_option maxRecDepth 100000 in
set_option maxHeartbeats 4000000 in
theorem lg1_sat (k : Int) (ba wa sa pa : Option Addr) (bc wc sc pc : Nat) (pb pr : Value) (b : List ByteArray) (r : Rdn) (ps : List Cnd) (g : Nat → Nat → Value) (w : World) (hB : Strs w (.slice ba b.length bc) b) (hR : RdnV w r (.agg #[.slice wa r.words.length wc, .slice sa r.src.length sc]))
    (hS : Sl2 w (.slice pa ps.length pc) 4 ps.length g) (hE : ∀ j, (h : j < ps.length) → Exp w ps[j] (.agg #[g j 0, g j 1, g j 2, g j 3])) (hpb : Pt1 w pb (.slice ba b.length bc)) (hpr : Pt w pr 2 (fun j => [.slice wa r.words.length wc, .slice sa r.src.length sc].getD j undef)) (hkd : KdL w) (hkf : KfL w) :
    SatV Tryd.prog 12 [.int .i64 k, .slice pa ps.length pc, pb, pr] w (.tuple #[.bool (hldB (.mk k 0 ⟨#[]⟩ ps) b r), .int .i64 (hldE (.mk k 0 ⟨#[]⟩ ps) b r)]) := by
  have hX : Exp w (.mk k 0 ⟨#[]⟩ ps) (.agg #[.int .i64 k, .int .i64 0, .string ⟨#[]⟩, .slice pa ps.length pc]) := exp_parts hS hE
  have hH := fun w1 (h : Below w.heap.size w w1) => Holds_sat _ _ _ (.mk k 0 ⟨#[]⟩ ps) b r w1 (hX.below h) (hB.below h) (hR.below h) (hkd.below h) (hkf.below h)
  refine SatL.of 16 [6, 7] Tryd.func12 (by kernel_rfl) (by kernel_rfl) rfl rfl rfl rfl ?_
  repeat' (first|(apply OK_seq)|(apply thenQ_n)|(apply OK_region)|(apply OKx_gl; refine OKx_ldR rfl hpb ?_)|(apply OKx_gl; refine OKx_ldRA rfl hpr ?_)|(refine OKx_buildG [(0, .int .i64 k), (3, .slice pa ps.length pc)] #[.int .i64 k, .int .i64 0, .string ⟨#[]⟩, .slice pa ps.length pc] rfl (exp_buildP k pa _ pc) ?_)|(apply OKx_gc 13;exact rfl; refine OKx_callV (f := 13) rfl rfl rfl (fun w1 hp => hH w1 hp.below) ?_)|(apply OKx_nilK)|(apply OK_block)|(apply blockQ_n)|(apply blockQ_s)|(apply thenQ_e)|(apply blockQ_e;exact rfl)|(apply thenQ_r)|(apply blockQ_r)|(apply OK_condT;exact rfl)|(apply OK_condF;exact rfl)|(apply OK_skip)|(apply OK_exit)|(apply OK_ret)|(apply OKx_move;(conv=>lhs;whnf)<;>exact rfl)|(apply OKx_assign;(conv=>lhs;whnf)<;>exact rfl)|(apply OKx_ldB;exact rfl;(first | exact at0|exact at1|exact at2|exact at3|exact at4|exact at5|exact at6|exact at7);exact rfl)|(apply OKx_ldR;(conv=>lhs;whnf)<;>exact rfl;(with_reducible assumption))|(apply OKx_extract;exact rfl;(conv=>lhs;whnf)<;>exact rfl)|(apply OKx_ldBA;exact rfl;(first | exact at0|exact at1|exact at2|exact at3|exact at4|exact at5|exact at6|exact at7);exact rfl)|(apply OKx_ldRA;(conv=>lhs;whnf)<;>exact rfl;(with_reducible assumption))|(apply OKx_build2;(conv=>lhs;whnf)<;>exact rfl;(conv=>lhs;whnf)<;>exact rfl;exact rfl;exact rfl))
  refine bodyQ_r2 (by ((conv=>lhs;whnf)<;>exact rfl)) (by ((conv=>lhs;whnf)<;>exact rfl)) ?_
  exact ⟨_, Ent.nil, rfl, rfl⟩
theorem OKx_slit2A {P : Program} {n : Nat} {w0 : World} {K : Fm → List Res → Prop} {F : Fm} {L Lw : List Res} {ops : Array Oper} {rest : List Oper} {d : Option Nat} {ty : TypeId} {pos : String} {aft : Array Edge} {t e bytes : Nat} {z : Value} [T : TSlice P t e 4 bytes z] {x y : Operand} {a1 a2 a3 a4 b1 b2 b3 b4 : Value} [hE : Keeps w0 L Lw] (hx : rv n F x = .agg #[a1, a2, a3, a4]) (hy : rv n F y = .agg #[b1, b2, b3, b4])
    (kk : ∀ g, OKx P n w0 (.seq Lw) ops K rest (updo F d (.slice (some ⟨g, 0, none⟩) 2 2)) (.row e 4 (.slice (some ⟨g, 0, none⟩) 2 2) 2 [a1, a2, a3, a4, b1, b2, b3, b4] :: L)) :
    OKx P n w0 (.seq Lw) ops K (⟨d, .buildSlice t 2 #[(0, x), (1, y)], ty, pos, aft, none⟩ :: rest) F L :=
  OKx_slit (sz := 4) (vs := [.agg #[a1, a2, a3, a4], .agg #[b1, b2, b3, b4]]) (cs := [[a1, a2, a3, a4], [b1, b2, b3, b4]]) [a1, a2, a3, a4, b1, b2, b3, b4] rfl (by simp [hx, hy]) rfl rfl rfl rfl kk
theorem logic_law {x y : Cnd} {b : List ByteArray} {r : Rdn} (h1 : hldE x b r = 0) (h2 : hldE y b r = 0) (h3 : hldE (.mk 11 0 ⟨#[]⟩ [x, y]) b r = 0) (h4 : hldE (.mk 11 0 ⟨#[]⟩ [y, x]) b r = 0) (h5 : hldE (.mk 12 0 ⟨#[]⟩ [x, y]) b r = 0) (h6 : hldE (.mk 12 0 ⟨#[]⟩ [y, x]) b r = 0) (h7 : hldE (.mk 13 0 ⟨#[]⟩ [x]) b r = 0) :
    hldB (.mk 11 0 ⟨#[]⟩ [x, y]) b r = (hldB x b r && hldB y b r) ∧ hldB (.mk 11 0 ⟨#[]⟩ [y, x]) b r = (hldB x b r && hldB y b r) ∧ hldB (.mk 12 0 ⟨#[]⟩ [x, y]) b r = (hldB x b r || hldB y b r) ∧ hldB (.mk 12 0 ⟨#[]⟩ [y, x]) b r = (hldB x b r || hldB y b r) ∧ hldB (.mk 13 0 ⟨#[]⟩ [x]) b r = !hldB x b r := by
  rw [hldB_ok h1, hldB_ok h2, hldB_ok h3, hldB_ok h4, hldB_ok h5, hldB_ok h6, hldB_ok h7, hd_and, hd_and, hd_or, hd_or, hd_not]
  exact ⟨rfl, Bool.and_comm _ _, rfl, Bool.or_comm _ _, rfl⟩
set_option maxRecDepth 100000 in
set_option maxHeartbeats 4000000 in
theorem ClassifyLogic_sat (xv yv bv rv : Value) (x y : Cnd) (b : List ByteArray) (r : Rdn) (w : World) (hX : Exp w x xv) (hY : Exp w y yv) (hB : Strs w bv b) (hR : RdnV w r rv) (hkd : KdL w) (hkf : KfL w) (ht : TbL w) : SatV Tryd.prog 3 [xv, yv, bv, rv] w (.bool true) := by
  have hX0 := hX
  have hY0 := hY
  obtain ⟨xp, gx, rfl, _, hPx, _⟩ := hX.shape
  obtain ⟨_, xa, xc, rfl, _⟩ := id hPx
  obtain ⟨yp, gy, rfl, _, hPy, _⟩ := hY.shape
  obtain ⟨_, ya, yc, rfl, _⟩ := id hPy
  obtain ⟨ba, bc, rfl, hbl, _⟩ := hB.at
  have hR0 := hR
  obtain ⟨wv, sv, rfl, hWv, hSv⟩ := hR
  obtain ⟨wa, wc, rfl, hwl, _⟩ := hWv.at
  obtain ⟨sa, sc, rfl, hsl, _⟩ := hSv.at
  have hA := fun w1 (h : Below w.heap.size w w1) => awake27_sat w1 (hkd.below h) (hkf.below h) (ht.below h)
  have hF : ∀ (w1 : World) (g g2 : Nat), Below w.heap.size w w1 → Sl2 w1 (.slice (some ⟨g, 0, none⟩) 1 1) 2 1 (fun j c => ([.slice wa r.words.length wc, .slice sa r.src.length sc] : List Value).getD (j * 2 + c) undef) → Sl2 w1 (.slice (some ⟨g2, 0, none⟩) 2 2) 4 2 (fun j c => ([.int .i64 x.kind, .int .i64 x.num, .string x.text, .slice xa x.parts.length xc, .int .i64 y.kind, .int .i64 y.num, .string y.text, .slice ya y.parts.length yc] : List Value).getD (j * 4 + c) undef) → SatV Tryd.prog 10 [.slice ba b.length bc, .slice (some ⟨g, 0, none⟩) 1 1, .slice (some ⟨g2, 0, none⟩) 2 2] w1 (.bool (finB b [r] [x, y])) := fun w1 g g2 h hs hs2 =>
    fine27_sat (.slice ba b.length bc) (.slice (some ⟨g, 0, none⟩) 1 1) (.slice (some ⟨g2, 0, none⟩) 2 2) b [r] [x, y] (fun j c => ([.int .i64 x.kind, .int .i64 x.num, .string x.text, .slice xa x.parts.length xc, .int .i64 y.kind, .int .i64 y.num, .string y.text, .slice ya y.parts.length yc] : List Value).getD (j * 4 + c) undef) w1 (hB.below h) (rdns_one hs (hR0.below h)) hs2 (exps_two (hX0.below h) (hY0.below h)) (hkd.below h)
  cases hfin : finB b [r] [x, y]
  · rw [hfin] at hF
    refine SatL.of 130 [8] Tryd.func3 (by kernel_rfl) (by kernel_rfl) rfl rfl rfl rfl ?_
    repeat' (first|(apply OK_seq)|(apply thenQ_n)|(apply OK_region)|(apply OKx_gt; refine OKx_slit1A (cs := [.slice wa r.words.length wc, .slice sa r.src.length sc]) rfl rfl rfl ?_; intro gR)|(apply OKx_gt; refine OKx_slit2A rfl rfl ?_; intro gX)|(apply OKx_gc 10;exact rfl; refine OKx_callV (f := 10) rfl rfl rfl (fun w1 hp => hF w1 _ _ hp.below (hp.sl2 1 rfl (by decide) rfl) (hp.sl2 0 rfl (by decide) rfl)) ?_)|(apply OKx_gc 11;exact rfl; refine OKx_callV (f := 11) rfl rfl rfl (fun w1 hp => hA w1 hp.below) ?_)|(apply OKx_nilK)|(apply OK_block)|(apply blockQ_n)|(apply blockQ_s)|(apply thenQ_e)|(apply blockQ_e;exact rfl)|(apply thenQ_r)|(apply blockQ_r)|(apply OK_condT;exact rfl)|(apply OK_condF;exact rfl)|(apply OK_skip)|(apply OK_exit)|(apply OK_ret)|(apply OKx_move;(conv=>lhs;whnf)<;>exact rfl)|(apply OKx_assign;(conv=>lhs;whnf)<;>exact rfl)|(apply OKx_ldB;exact rfl;(first | exact at0|exact at1|exact at2|exact at3|exact at4|exact at5|exact at6|exact at7);exact rfl)|(apply OKx_ldR;(conv=>lhs;whnf)<;>exact rfl;(with_reducible assumption))|(apply OKx_eql;exact rfl;exact rfl;all_goals (intro _; try (exfalso;omega)))|(apply OKx_neq;exact rfl;exact rfl;all_goals (intro _; try (exfalso;omega)))|(apply OKx_max;exact rfl;exact rfl)|(apply OKx_pickT;exact rfl;(conv=>lhs;whnf)<;>exact rfl)|(apply OKx_pickF;exact rfl;(conv=>lhs;whnf)<;>exact rfl)|(apply OKx_guardT;exact rfl;exact rfl)|(apply OKx_guardF;exact rfl;exact rfl)|(apply OKx_guardU;exact rfl;exact rfl)|(apply OKx_notT;exact rfl)|(apply OKx_notF;exact rfl)|(apply OKx_extract;exact rfl;(conv=>lhs;whnf)<;>exact rfl)|(apply OKx_boxA;exact rfl;intro _)|(apply OKx_ldBA;exact rfl;(first | exact at0|exact at1|exact at2|exact at3|exact at4|exact at5|exact at6|exact at7);exact rfl)|(apply OKx_ldRA;(conv=>lhs;whnf)<;>exact rfl;(with_reducible assumption))|(apply OKx_slit1;(conv=>lhs;whnf)<;>exact rfl;exact rfl;intro _)|(apply OKx_slit2;(conv=>lhs;whnf)<;>exact rfl;(conv=>lhs;whnf)<;>exact rfl;exact rfl;exact rfl;intro _)|(apply OKx_box1;(conv=>lhs;whnf)<;>exact rfl;exact rfl;intro _)|(apply OKx_func;exact rfl;exact rfl))
    refine bodyQ_r1 (by ((conv=>lhs;whnf)<;>exact rfl)) ?_
    exact ⟨_, Ent.nil, rfl, rfl⟩
  rw [hfin] at hF
  have hHx := fun w1 (h : Below w.heap.size w w1) => Holds_sat _ _ _ x b r w1 (hX0.below h) (hB.below h) (hR0.below h) (hkd.below h) (hkf.below h)
  have hHy := fun w1 (h : Below w.heap.size w w1) => Holds_sat _ _ _ y b r w1 (hY0.below h) (hB.below h) (hR0.below h) (hkd.below h) (hkf.below h)
  have c11 : ∀ (w1 : World) (p q g : Nat), Below w.heap.size w w1 → Sl2 w1 (.slice (some ⟨g, 0, none⟩) 2 2) 4 2 (fun j c => ([.int .i64 x.kind, .int .i64 x.num, .string x.text, .slice xa x.parts.length xc, .int .i64 y.kind, .int .i64 y.num, .string y.text, .slice ya y.parts.length yc] : List Value).getD (j * 4 + c) undef) → w1.cell? ⟨p, 0, none⟩ = some (.slice ba b.length bc) → (∀ j, j < 2 → w1.cell? ⟨q, 0 + j, none⟩ = some ([.slice wa r.words.length wc, .slice sa r.src.length sc].getD j undef)) →
      SatV Tryd.prog 12 [.int .i64 11, .slice (some ⟨g, 0, none⟩) 2 2, .pointer (some ⟨p, 0, none⟩), .pointer (some ⟨q, 0, none⟩)] w1 (.tuple #[.bool (hldB (.mk 11 0 ⟨#[]⟩ [x, y]) b r), .int .i64 (hldE (.mk 11 0 ⟨#[]⟩ [x, y]) b r)]) := fun w1 p q g h hs hpb hpr =>
    lg1_sat 11 ba wa sa (some ⟨g, 0, none⟩) bc wc sc 2 (.pointer (some ⟨p, 0, none⟩)) (.pointer (some ⟨q, 0, none⟩)) b r [x, y] (fun j c => ([.int .i64 x.kind, .int .i64 x.num, .string x.text, .slice xa x.parts.length xc, .int .i64 y.kind, .int .i64 y.num, .string y.text, .slice ya y.parts.length yc] : List Value).getD (j * 4 + c) undef) w1 (hB.below h) (hR0.below h) hs (exps_two (hX0.below h) (hY0.below h)) ⟨_, _, rfl, hpb⟩ ⟨_, _, rfl, hpr⟩ (hkd.below h) (hkf.below h)
  have c12 : ∀ (w1 : World) (p q g : Nat), Below w.heap.size w w1 → Sl2 w1 (.slice (some ⟨g, 0, none⟩) 2 2) 4 2 (fun j c => ([.int .i64 y.kind, .int .i64 y.num, .string y.text, .slice ya y.parts.length yc, .int .i64 x.kind, .int .i64 x.num, .string x.text, .slice xa x.parts.length xc] : List Value).getD (j * 4 + c) undef) → w1.cell? ⟨p, 0, none⟩ = some (.slice ba b.length bc) → (∀ j, j < 2 → w1.cell? ⟨q, 0 + j, none⟩ = some ([.slice wa r.words.length wc, .slice sa r.src.length sc].getD j undef)) →
      SatV Tryd.prog 12 [.int .i64 11, .slice (some ⟨g, 0, none⟩) 2 2, .pointer (some ⟨p, 0, none⟩), .pointer (some ⟨q, 0, none⟩)] w1 (.tuple #[.bool (hldB (.mk 11 0 ⟨#[]⟩ [y, x]) b r), .int .i64 (hldE (.mk 11 0 ⟨#[]⟩ [y, x]) b r)]) := fun w1 p q g h hs hpb hpr =>
    lg1_sat 11 ba wa sa (some ⟨g, 0, none⟩) bc wc sc 2 (.pointer (some ⟨p, 0, none⟩)) (.pointer (some ⟨q, 0, none⟩)) b r [y, x] (fun j c => ([.int .i64 y.kind, .int .i64 y.num, .string y.text, .slice ya y.parts.length yc, .int .i64 x.kind, .int .i64 x.num, .string x.text, .slice xa x.parts.length xc] : List Value).getD (j * 4 + c) undef) w1 (hB.below h) (hR0.below h) hs (exps_two (hY0.below h) (hX0.below h)) ⟨_, _, rfl, hpb⟩ ⟨_, _, rfl, hpr⟩ (hkd.below h) (hkf.below h)
  have c21 : ∀ (w1 : World) (p q g : Nat), Below w.heap.size w w1 → Sl2 w1 (.slice (some ⟨g, 0, none⟩) 2 2) 4 2 (fun j c => ([.int .i64 x.kind, .int .i64 x.num, .string x.text, .slice xa x.parts.length xc, .int .i64 y.kind, .int .i64 y.num, .string y.text, .slice ya y.parts.length yc] : List Value).getD (j * 4 + c) undef) → w1.cell? ⟨p, 0, none⟩ = some (.slice ba b.length bc) → (∀ j, j < 2 → w1.cell? ⟨q, 0 + j, none⟩ = some ([.slice wa r.words.length wc, .slice sa r.src.length sc].getD j undef)) →
      SatV Tryd.prog 12 [.int .i64 12, .slice (some ⟨g, 0, none⟩) 2 2, .pointer (some ⟨p, 0, none⟩), .pointer (some ⟨q, 0, none⟩)] w1 (.tuple #[.bool (hldB (.mk 12 0 ⟨#[]⟩ [x, y]) b r), .int .i64 (hldE (.mk 12 0 ⟨#[]⟩ [x, y]) b r)]) := fun w1 p q g h hs hpb hpr =>
    lg1_sat 12 ba wa sa (some ⟨g, 0, none⟩) bc wc sc 2 (.pointer (some ⟨p, 0, none⟩)) (.pointer (some ⟨q, 0, none⟩)) b r [x, y] (fun j c => ([.int .i64 x.kind, .int .i64 x.num, .string x.text, .slice xa x.parts.length xc, .int .i64 y.kind, .int .i64 y.num, .string y.text, .slice ya y.parts.length yc] : List Value).getD (j * 4 + c) undef) w1 (hB.below h) (hR0.below h) hs (exps_two (hX0.below h) (hY0.below h)) ⟨_, _, rfl, hpb⟩ ⟨_, _, rfl, hpr⟩ (hkd.below h) (hkf.below h)
  have c22 : ∀ (w1 : World) (p q g : Nat), Below w.heap.size w w1 → Sl2 w1 (.slice (some ⟨g, 0, none⟩) 2 2) 4 2 (fun j c => ([.int .i64 y.kind, .int .i64 y.num, .string y.text, .slice ya y.parts.length yc, .int .i64 x.kind, .int .i64 x.num, .string x.text, .slice xa x.parts.length xc] : List Value).getD (j * 4 + c) undef) → w1.cell? ⟨p, 0, none⟩ = some (.slice ba b.length bc) → (∀ j, j < 2 → w1.cell? ⟨q, 0 + j, none⟩ = some ([.slice wa r.words.length wc, .slice sa r.src.length sc].getD j undef)) →
      SatV Tryd.prog 12 [.int .i64 12, .slice (some ⟨g, 0, none⟩) 2 2, .pointer (some ⟨p, 0, none⟩), .pointer (some ⟨q, 0, none⟩)] w1 (.tuple #[.bool (hldB (.mk 12 0 ⟨#[]⟩ [y, x]) b r), .int .i64 (hldE (.mk 12 0 ⟨#[]⟩ [y, x]) b r)]) := fun w1 p q g h hs hpb hpr =>
    lg1_sat 12 ba wa sa (some ⟨g, 0, none⟩) bc wc sc 2 (.pointer (some ⟨p, 0, none⟩)) (.pointer (some ⟨q, 0, none⟩)) b r [y, x] (fun j c => ([.int .i64 y.kind, .int .i64 y.num, .string y.text, .slice ya y.parts.length yc, .int .i64 x.kind, .int .i64 x.num, .string x.text, .slice xa x.parts.length xc] : List Value).getD (j * 4 + c) undef) w1 (hB.below h) (hR0.below h) hs (exps_two (hY0.below h) (hX0.below h)) ⟨_, _, rfl, hpb⟩ ⟨_, _, rfl, hpr⟩ (hkd.below h) (hkf.below h)
  have c31 : ∀ (w1 : World) (p q g : Nat), Below w.heap.size w w1 → Sl2 w1 (.slice (some ⟨g, 0, none⟩) 1 1) 4 1 (fun j c => ([.int .i64 x.kind, .int .i64 x.num, .string x.text, .slice xa x.parts.length xc] : List Value).getD (j * 4 + c) undef) → w1.cell? ⟨p, 0, none⟩ = some (.slice ba b.length bc) → (∀ j, j < 2 → w1.cell? ⟨q, 0 + j, none⟩ = some ([.slice wa r.words.length wc, .slice sa r.src.length sc].getD j undef)) →
      SatV Tryd.prog 12 [.int .i64 13, .slice (some ⟨g, 0, none⟩) 1 1, .pointer (some ⟨p, 0, none⟩), .pointer (some ⟨q, 0, none⟩)] w1 (.tuple #[.bool (hldB (.mk 13 0 ⟨#[]⟩ [x]) b r), .int .i64 (hldE (.mk 13 0 ⟨#[]⟩ [x]) b r)]) := fun w1 p q g h hs hpb hpr =>
    lg1_sat 13 ba wa sa (some ⟨g, 0, none⟩) bc wc sc 1 (.pointer (some ⟨p, 0, none⟩)) (.pointer (some ⟨q, 0, none⟩)) b r [x] (fun j c => ([.int .i64 x.kind, .int .i64 x.num, .string x.text, .slice xa x.parts.length xc] : List Value).getD (j * 4 + c) undef) w1 (hB.below h) (hR0.below h) hs (exps_one (xs := [.int .i64 x.kind, .int .i64 x.num, .string x.text, .slice xa x.parts.length xc]) rfl hs (hX0.below h)) ⟨_, _, rfl, hpb⟩ ⟨_, _, rfl, hpr⟩ (hkd.below h) (hkf.below h)
  have hlaw := @logic_law x y b r
  have d1 := hldE_bd x b r
  have d2 := hldE_bd y b r
  have d3 := hldE_bd (.mk 11 0 ⟨#[]⟩ [x, y]) b r
  have d4 := hldE_bd (.mk 11 0 ⟨#[]⟩ [y, x]) b r
  have d5 := hldE_bd (.mk 12 0 ⟨#[]⟩ [x, y]) b r
  have d6 := hldE_bd (.mk 12 0 ⟨#[]⟩ [y, x]) b r
  have d7 := hldE_bd (.mk 13 0 ⟨#[]⟩ [x]) b r
  generalize hldE x b r = e1 at hHx hlaw d1
  generalize hldE y b r = e2 at hHy hlaw d2
  generalize hldE (.mk 11 0 ⟨#[]⟩ [x, y]) b r = e3 at c11 hlaw d3
  generalize hldE (.mk 11 0 ⟨#[]⟩ [y, x]) b r = e4 at c12 hlaw d4
  generalize hldE (.mk 12 0 ⟨#[]⟩ [x, y]) b r = e5 at c21 hlaw d5
  generalize hldE (.mk 12 0 ⟨#[]⟩ [y, x]) b r = e6 at c22 hlaw d6
  generalize hldE (.mk 13 0 ⟨#[]⟩ [x]) b r = e7 at c31 hlaw d7
  generalize hldB (.mk 11 0 ⟨#[]⟩ [x, y]) b r = v3 at c11 hlaw
  generalize hldB (.mk 11 0 ⟨#[]⟩ [y, x]) b r = v4 at c12 hlaw
  generalize hldB (.mk 12 0 ⟨#[]⟩ [x, y]) b r = v5 at c21 hlaw
  generalize hldB (.mk 12 0 ⟨#[]⟩ [y, x]) b r = v6 at c22 hlaw
  generalize hldB (.mk 13 0 ⟨#[]⟩ [x]) b r = v7 at c31 hlaw
  generalize hldB x b r = v1 at hHx hlaw
  generalize hldB y b r = v2 at hHy hlaw
  by_cases hz : e1 = 0 ∧ e2 = 0 ∧ e3 = 0 ∧ e4 = 0 ∧ e5 = 0 ∧ e6 = 0 ∧ e7 = 0
  rotate_left
  · have hm : max (max (max (max (max (max e1 e2) e3) e4) e5) e6) e7 = 1 := by omega
    clear d1 d2 d3 d4 d5 d6 d7 hz hlaw
    refine SatL.of 130 [8] Tryd.func3 (by kernel_rfl) (by kernel_rfl) rfl rfl rfl rfl ?_
    repeat' (first|(apply OK_seq)|(apply thenQ_n)|(apply OK_region)|(apply OKx_gt; refine OKx_slit1A (cs := [.slice wa r.words.length wc, .slice sa r.src.length sc]) rfl rfl rfl ?_; intro gR)|(apply OKx_gt; refine OKx_slit1A (cs := [.int .i64 x.kind, .int .i64 x.num, .string x.text, .slice xa x.parts.length xc]) rfl rfl rfl ?_; intro gR)|(apply OKx_gt; refine OKx_slit2A rfl rfl ?_; intro gX)|(apply OKx_gc 10;exact rfl; refine OKx_callV (f := 10) rfl rfl rfl (fun w1 hp => hF w1 _ _ hp.below (hp.sl2 1 rfl (by decide) rfl) (hp.sl2 0 rfl (by decide) rfl)) ?_)|(apply OKx_gc 11;exact rfl; refine OKx_callV (f := 11) rfl rfl rfl (fun w1 hp => hA w1 hp.below) ?_)|(apply OKx_gc 13;exact rfl; refine OKx_callV (f := 13) rfl rfl rfl (fun w1 hp => hHx w1 hp.below) ?_)|(apply OKx_gc 13;exact rfl; refine OKx_callV (f := 13) rfl rfl rfl (fun w1 hp => hHy w1 hp.below) ?_)|(apply OKx_gc 12;exact rfl; refine OKx_callV (f := 12) rfl rfl rfl (fun w1 hp => c11 w1 _ _ _ hp.below (hp.sl2 0 rfl (by decide) rfl) ((hp.boxAt 4 rfl).1 0) (fun j hj => by rw [Nat.zero_add, (hp.boxAt 3 rfl).1 j]; simp [hj])) ?_)|(apply OKx_gc 12;exact rfl; refine OKx_callV (f := 12) rfl rfl rfl (fun w1 hp => c12 w1 _ _ _ hp.below (hp.sl2 0 rfl (by decide) rfl) ((hp.boxAt 5 rfl).1 0) (fun j hj => by rw [Nat.zero_add, (hp.boxAt 4 rfl).1 j]; simp [hj])) ?_)|(apply OKx_gc 12;exact rfl; refine OKx_callV (f := 12) rfl rfl rfl (fun w1 hp => c21 w1 _ _ _ hp.below (hp.sl2 0 rfl (by decide) rfl) ((hp.boxAt 6 rfl).1 0) (fun j hj => by rw [Nat.zero_add, (hp.boxAt 5 rfl).1 j]; simp [hj])) ?_)|(apply OKx_gc 12;exact rfl; refine OKx_callV (f := 12) rfl rfl rfl (fun w1 hp => c22 w1 _ _ _ hp.below (hp.sl2 0 rfl (by decide) rfl) ((hp.boxAt 7 rfl).1 0) (fun j hj => by rw [Nat.zero_add, (hp.boxAt 6 rfl).1 j]; simp [hj])) ?_)|(apply OKx_gc 12;exact rfl; refine OKx_callV (f := 12) rfl rfl rfl (fun w1 hp => c31 w1 _ _ _ hp.below (hp.sl2 0 rfl (by decide) rfl) ((hp.boxAt 8 rfl).1 0) (fun j hj => by rw [Nat.zero_add, (hp.boxAt 7 rfl).1 j]; simp [hj])) ?_)|(apply OKx_gl; refine OKx_ldBA 8 rfl rfl rfl ?_)|(apply OKx_gl; refine OKx_ldBA 9 rfl rfl rfl ?_)|(apply OKx_gl; refine OKx_ldBA 10 rfl rfl rfl ?_)|(apply OKx_gb; refine OKx_max7 rfl rfl rfl rfl rfl rfl rfl hm ?_)|(apply OKx_nilK)|(apply OK_block)|(apply blockQ_n)|(apply blockQ_s)|(apply thenQ_e)|(apply blockQ_e;exact rfl)|(apply thenQ_r)|(apply blockQ_r)|(apply OK_condT;exact rfl)|(apply OK_condF;exact rfl)|(apply OK_skip)|(apply OK_exit)|(apply OK_ret)|(apply OKx_move;(conv=>lhs;whnf)<;>exact rfl)|(apply OKx_assign;(conv=>lhs;whnf)<;>exact rfl)|(apply OKx_ldB;exact rfl;(first | exact at0|exact at1|exact at2|exact at3|exact at4|exact at5|exact at6|exact at7);exact rfl)|(apply OKx_ldR;(conv=>lhs;whnf)<;>exact rfl;(with_reducible assumption))|(apply OKx_eql;exact rfl;exact rfl;all_goals (intro _; try (exfalso;omega)))|(apply OKx_neq;exact rfl;exact rfl;all_goals (intro _; try (exfalso;omega)))|(apply OKx_max;exact rfl;exact rfl)|(apply OKx_pickT;exact rfl;(conv=>lhs;whnf)<;>exact rfl)|(apply OKx_pickF;exact rfl;(conv=>lhs;whnf)<;>exact rfl)|(apply OKx_guardT;exact rfl;exact rfl)|(apply OKx_guardF;exact rfl;exact rfl)|(apply OKx_guardU;exact rfl;exact rfl)|(apply OKx_notT;exact rfl)|(apply OKx_notF;exact rfl)|(apply OKx_extract;exact rfl;(conv=>lhs;whnf)<;>exact rfl)|(apply OKx_boxA;exact rfl;intro _)|(apply OKx_ldBA;exact rfl;(first | exact at0|exact at1|exact at2|exact at3|exact at4|exact at5|exact at6|exact at7);exact rfl)|(apply OKx_ldRA;(conv=>lhs;whnf)<;>exact rfl;(with_reducible assumption))|(apply OKx_slit1;(conv=>lhs;whnf)<;>exact rfl;exact rfl;intro _)|(apply OKx_slit2;(conv=>lhs;whnf)<;>exact rfl;(conv=>lhs;whnf)<;>exact rfl;exact rfl;exact rfl;intro _)|(apply OKx_box1;(conv=>lhs;whnf)<;>exact rfl;exact rfl;intro _)|(apply OKx_func;exact rfl;exact rfl))
    all_goals (try (exfalso;omega))
    refine bodyQ_r1 (by ((conv=>lhs;whnf)<;>exact rfl)) ?_
    exact ⟨_, Ent.nil, rfl, rfl⟩
  obtain ⟨rfl, rfl, rfl, rfl, rfl, rfl, rfl⟩ := hz
  obtain ⟨l1, l2, l3, l4, l5⟩ := hlaw rfl rfl rfl rfl rfl rfl rfl
  subst l1 l2 l3 l4 l5
  clear d1 d2 d3 d4 d5 d6 d7
  cases v1 <;> cases v2
  all_goals
    refine SatL.of 130 [8] Tryd.func3 (by kernel_rfl) (by kernel_rfl) rfl rfl rfl rfl ?_
    repeat' (first|(apply OK_seq)|(apply thenQ_n)|(apply OK_region)|(apply OKx_gt; refine OKx_slit1A (cs := [.slice wa r.words.length wc, .slice sa r.src.length sc]) rfl rfl rfl ?_; intro gR)|(apply OKx_gt; refine OKx_slit1A (cs := [.int .i64 x.kind, .int .i64 x.num, .string x.text, .slice xa x.parts.length xc]) rfl rfl rfl ?_; intro gR)|(apply OKx_gt; refine OKx_slit2A rfl rfl ?_; intro gX)|(apply OKx_gc 10;exact rfl; refine OKx_callV (f := 10) rfl rfl rfl (fun w1 hp => hF w1 _ _ hp.below (hp.sl2 1 rfl (by decide) rfl) (hp.sl2 0 rfl (by decide) rfl)) ?_)|(apply OKx_gc 11;exact rfl; refine OKx_callV (f := 11) rfl rfl rfl (fun w1 hp => hA w1 hp.below) ?_)|(apply OKx_gc 13;exact rfl; refine OKx_callV (f := 13) rfl rfl rfl (fun w1 hp => hHx w1 hp.below) ?_)|(apply OKx_gc 13;exact rfl; refine OKx_callV (f := 13) rfl rfl rfl (fun w1 hp => hHy w1 hp.below) ?_)|(apply OKx_gc 12;exact rfl; refine OKx_callV (f := 12) rfl rfl rfl (fun w1 hp => c11 w1 _ _ _ hp.below (hp.sl2 0 rfl (by decide) rfl) ((hp.boxAt 4 rfl).1 0) (fun j hj => by rw [Nat.zero_add, (hp.boxAt 3 rfl).1 j]; simp [hj])) ?_)|(apply OKx_gc 12;exact rfl; refine OKx_callV (f := 12) rfl rfl rfl (fun w1 hp => c12 w1 _ _ _ hp.below (hp.sl2 0 rfl (by decide) rfl) ((hp.boxAt 5 rfl).1 0) (fun j hj => by rw [Nat.zero_add, (hp.boxAt 4 rfl).1 j]; simp [hj])) ?_)|(apply OKx_gc 12;exact rfl; refine OKx_callV (f := 12) rfl rfl rfl (fun w1 hp => c21 w1 _ _ _ hp.below (hp.sl2 0 rfl (by decide) rfl) ((hp.boxAt 6 rfl).1 0) (fun j hj => by rw [Nat.zero_add, (hp.boxAt 5 rfl).1 j]; simp [hj])) ?_)|(apply OKx_gc 12;exact rfl; refine OKx_callV (f := 12) rfl rfl rfl (fun w1 hp => c22 w1 _ _ _ hp.below (hp.sl2 0 rfl (by decide) rfl) ((hp.boxAt 7 rfl).1 0) (fun j hj => by rw [Nat.zero_add, (hp.boxAt 6 rfl).1 j]; simp [hj])) ?_)|(apply OKx_gc 12;exact rfl; refine OKx_callV (f := 12) rfl rfl rfl (fun w1 hp => c31 w1 _ _ _ hp.below (hp.sl2 0 rfl (by decide) rfl) ((hp.boxAt 8 rfl).1 0) (fun j hj => by rw [Nat.zero_add, (hp.boxAt 7 rfl).1 j]; simp [hj])) ?_)|(apply OKx_gl; refine OKx_ldBA 8 rfl rfl rfl ?_)|(apply OKx_gl; refine OKx_ldBA 9 rfl rfl rfl ?_)|(apply OKx_gl; refine OKx_ldBA 10 rfl rfl rfl ?_)|(apply OKx_gb; refine OKx_max7 (r := 0) rfl rfl rfl rfl rfl rfl rfl (by decide) ?_)|(apply OKx_gn; refine OKx_beqT Tryd.underlying4 rfl rfl ?_)|(apply OKx_nilK)|(apply OK_block)|(apply blockQ_n)|(apply blockQ_s)|(apply thenQ_e)|(apply blockQ_e;exact rfl)|(apply thenQ_r)|(apply blockQ_r)|(apply OK_condT;exact rfl)|(apply OK_condF;exact rfl)|(apply OK_skip)|(apply OK_exit)|(apply OK_ret)|(apply OKx_move;(conv=>lhs;whnf)<;>exact rfl)|(apply OKx_assign;(conv=>lhs;whnf)<;>exact rfl)|(apply OKx_ldB;exact rfl;(first | exact at0|exact at1|exact at2|exact at3|exact at4|exact at5|exact at6|exact at7);exact rfl)|(apply OKx_ldR;(conv=>lhs;whnf)<;>exact rfl;(with_reducible assumption))|(apply OKx_eql;exact rfl;exact rfl;all_goals (intro _; try (exfalso;omega)))|(apply OKx_neq;exact rfl;exact rfl;all_goals (intro _; try (exfalso;omega)))|(apply OKx_max;exact rfl;exact rfl)|(apply OKx_pickT;exact rfl;(conv=>lhs;whnf)<;>exact rfl)|(apply OKx_pickF;exact rfl;(conv=>lhs;whnf)<;>exact rfl)|(apply OKx_guardT;exact rfl;exact rfl)|(apply OKx_guardF;exact rfl;exact rfl)|(apply OKx_guardU;exact rfl;exact rfl)|(apply OKx_notT;exact rfl)|(apply OKx_notF;exact rfl)|(apply OKx_extract;exact rfl;(conv=>lhs;whnf)<;>exact rfl)|(apply OKx_boxA;exact rfl;intro _)|(apply OKx_ldBA;exact rfl;(first | exact at0|exact at1|exact at2|exact at3|exact at4|exact at5|exact at6|exact at7);exact rfl)|(apply OKx_ldRA;(conv=>lhs;whnf)<;>exact rfl;(with_reducible assumption))|(apply OKx_slit1;(conv=>lhs;whnf)<;>exact rfl;exact rfl;intro _)|(apply OKx_slit2;(conv=>lhs;whnf)<;>exact rfl;(conv=>lhs;whnf)<;>exact rfl;exact rfl;exact rfl;intro _)|(apply OKx_box1;(conv=>lhs;whnf)<;>exact rfl;exact rfl;intro _)|(apply OKx_func;exact rfl;exact rfl))
    all_goals (try (exfalso;omega))
    refine bodyQ_r1 (by ((conv=>lhs;whnf)<;>exact rfl)) ?_
    exact ⟨_, Ent.nil, rfl, rfl⟩
end Go.Proofs.YthnlnffmmioapaaDoor
namespace Go.Proofs.YthnlnffmmioapaaDoor
open Go.RowKit Go.Deep Go.WideShapes
section
variable {H : Type} {enc : TypeId × Value → H} {W : World}
def Light (t : TypeId) (d : DataW H) : Prop := ∀ n ∈ d.weights Tryd.prog t, n ≤ 140737488355328
theorem light_all {e : TypeId} {els : List (DataW H)} {d : DataW H} (hd : d ∈ els) {n : Nat} (hn : n ∈ d.weights Tryd.prog e) : n ∈ DataW.weightsAll Tryd.prog e els := by
  induction els with
  | nil => simp at hd
  | cons a r ih =>
    simp only [DataW.weightsAll, List.mem_append]
    rcases List.mem_cons.1 hd with rfl | h
    · exact .inl hn
    · exact .inr (ih h)
theorem light_slice {t e : TypeId} {els sp : List (DataW H)} (hu : Tryd.prog.underlying t = some (.slice e)) (h : Light t (.slice els sp)) : (els.length + sp.length) * Tryd.prog.bytesOf e ≤ 140737488355328 ∧ ∀ d ∈ els, Light e d := by
  unfold Light at *
  simp only [DataW.weights, hu] at h
  exact ⟨h _ (by simp), fun d hd n hn => h n (by simp [light_all hd hn])⟩
theorem light_agg {t : TypeId} {fs : Array Field} {parts : List (DataW H)} (hu : Tryd.prog.underlying t = some (.struct fs)) (h : Light t (.agg parts)) (j : Nat) {ty : TypeId} {d : DataW H} (h1 : (fs.toList.map (·.type))[j]? = some ty) (h2 : parts[j]? = some d) : Light ty d := by
  intro n hn
  refine h n ?_
  simp only [DataW.weights, hu]
  exact DataW.weights_mem_each h1 h2 n hn
theorem light_each {ts : List TypeId} {ds : List (DataW H)} (h : (DataW.weightsEach Tryd.prog ts ds).all (· ≤ reachBytes) = true) (j : Nat) {t : TypeId} {d : DataW H} (h1 : ts[j]? = some t) (h2 : ds[j]? = some d) : Light t d := by
  intro n hn
  have : n ≤ reachBytes := by simpa using List.all_eq_true.1 h _ (DataW.weights_mem_each h1 h2 n hn)
  have r : reachBytes = 140737488351232 := rfl
  omega
theorem light_string {t : TypeId} {b : List UInt8} (h : Light t (.lit (.string b) : DataW H)) : b.length ≤ 140737488355328 := h _ (by simp [DataW.weights])
theorem wf_range {z : Int} (h : (Lit.int .i64 z).wf = true) : -9223372036854775808 ≤ z ∧ z ≤ 9223372036854775807 := by
  have e1 : IntKind.i64.min = -9223372036854775808 := rfl
  have e2 : IntKind.i64.max = 9223372036854775807 := rfl
  simp only [Lit.wf, Bool.and_eq_true, decide_eq_true_eq] at h
  omega
theorem open_sl2 {t e : TypeId} {fuel sz : Nat} {v : Value} {x : DataW H × List MemPlace} (ht : Tryd.prog.underlying t = some (.slice e)) (hc : Tryd.prog.cellsOf e = sz) (hsz : 0 < sz) (hb : 0 < Tryd.prog.bytesOf e)
    (h : DataW.trod enc Tryd.prog W 0 (fun _ => true) true fuel t [v] = some x) (hw : Light t x.1) :
    ∃ (n m : Nat) (C : Nat → List Value) (D : Nat → DataW H) (Q : Nat → List MemPlace), Sl2 W v sz n (fun j c => (C j).getD c undef) ∧ (∀ a k c, v = .slice a k c → k ≤ c) ∧
      ∀ i, i < n → (C i).length = sz ∧ DataW.trod enc Tryd.prog W 0 (fun _ => true) true m e (C i) = some (D i, Q i) ∧ Light e (D i) := by
  rcases open_slice ht h with ⟨h1, h2⟩ | ⟨a, len, cap, m, n, D, Q, h1, _, hl, hm, hmm, rfl, hx⟩
  · simp only [List.cons.injEq, and_true] at h1
    subst h1; subst h2
    refine ⟨0, 0, fun _ => [], fun _ => .nil, fun _ => [], ⟨by omega, none, 0, rfl, .inl rfl⟩, ?_, fun i hi => absurd hi (by omega)⟩
    intro a k c e
    cases e; exact Nat.le_refl _
  · simp only [List.cons.injEq, and_true] at h1
    subst h1
    simp only [if_true] at hmm
    subst hmm
    obtain ⟨hw1, hw2⟩ := light_slice ht hw
    rw [hc] at hx
    have hx' : ∀ i, i < len → ∃ cs', W.cells? 0 (a.add (i * sz)) sz = some cs' ∧ DataW.trod enc Tryd.prog W 0 (fun _ => true) true n e cs' = some (D i, Q i) := fun i hi => hx i (by omega)
    obtain ⟨C, hC⟩ := choose_lt (α := List Value) hx'
    have hlen : len ≤ 140737488355328 := by
      have : len * 1 ≤ len * Tryd.prog.bytesOf e := Nat.mul_le_mul_left _ hb
      simp only [List.length_map, List.length_range] at hw1
      have h3 : len * Tryd.prog.bytesOf e ≤ (len + (m - len)) * Tryd.prog.bytesOf e := Nat.mul_le_mul_right _ (by omega)
      omega
    refine ⟨len, n, C, D, Q, ⟨hlen, some a, m, rfl, ?_⟩, ?_, fun i hi => ?_⟩
    · by_cases h0 : len = 0
      · exact .inl h0
      right
      obtain ⟨b, off, spot⟩ := a
      have hs : spot = none := by
        obtain ⟨_, h4, h5⟩ := World.cells?_some (hC 0 (by omega)).1
        have h6 := h5 0 hsz
        obtain ⟨u, hu⟩ : ∃ u, (C 0)[0]? = some u := ⟨_, List.getElem?_eq_getElem (by omega)⟩
        rw [hu] at h6
        simpa [Addr.add] using World.cell?_spot h6
      subst hs
      refine ⟨b, off, rfl, fun j hj c hcs => ?_⟩
      obtain ⟨_, h4, h5⟩ := World.cells?_some (hC j hj).1
      have h6 := h5 c hcs
      rw [add_plain, add_plain] at h6
      rw [h6]
      simp [h4, hcs]
    · intro a' k c e
      cases e; exact hl
    · obtain ⟨_, h4, h5⟩ := World.cells?_some (hC i hi).1
      refine ⟨h4, (hC i hi).2, hw2 _ ?_⟩
      exact List.mem_map.2 ⟨i, List.mem_range.2 hi, rfl⟩
theorem Sl2.flat {v : Value} {sz n : Nat} {g : Nat → Nat → Value} (h : Sl2 W v sz n g) (hr : ∀ a k c, v = .slice a k c → k ≤ c) (f : Nat → Value) (hf : ∀ j, j < n → ∀ c, c < sz → f (j * sz + c) = g j c) (hsz : 0 < sz) : Sl W v sz n f := by
  obtain ⟨h1, a, cap, rfl, h2⟩ := h
  refine ⟨h1, ⟨a, cap, rfl, ?_⟩, hr⟩
  rcases h2 with h0 | ⟨b, off, ha, hc⟩
  · exact .inl h0
  refine .inr ⟨b, off, ha, fun j hj => ?_⟩
  have h3 := Nat.div_add_mod j sz
  have h4 := Nat.mod_lt j hsz
  have h5 : j / sz < n := (Nat.div_lt_iff_lt_mul hsz).2 hj
  have h6 := hc (j / sz) h5 (j % sz) h4
  have h7 := hf (j / sz) h5 (j % sz) h4
  have h8 : j / sz * sz + j % sz = j := by rw [Nat.mul_comm]; exact h3
  rw [Nat.add_assoc, h8] at h6
  rw [h8] at h7
  rw [h6, h7]
theorem open_sl {t e : TypeId} {fuel : Nat} {v : Value} {x : DataW H × List MemPlace} (ht : Tryd.prog.underlying t = some (.slice e)) (hc : Tryd.prog.cellsOf e = 1) (hb : 0 < Tryd.prog.bytesOf e)
    (h : DataW.trod enc Tryd.prog W 0 (fun _ => true) true fuel t [v] = some x) (hw : Light t x.1) :
    ∃ (n m : Nat) (V : Nat → Value) (D : Nat → DataW H) (Q : Nat → List MemPlace), Sl W v 1 n V ∧
      ∀ i, i < n → DataW.trod enc Tryd.prog W 0 (fun _ => true) true m e [V i] = some (D i, Q i) ∧ Light e (D i) := by
  obtain ⟨n, m, C, D, Q, h1, h2, h3⟩ := open_sl2 ht hc (by decide) hb h hw
  refine ⟨n, m, fun j => (C j).getD 0 undef, D, Q, h1.flat h2 _ (fun j hj c hcs => ?_) (by decide), fun i hi => ?_⟩
  · obtain rfl : c = 0 := by omega
    simp
  · obtain ⟨h4, h5, h6⟩ := h3 i hi
    refine ⟨?_, h6⟩
    match hCi : C i, h4 with
    | [u], _ => rw [hCi] at h5; simpa [hCi] using h5
theorem range_getD {α : Type} (n : Nat) (f : Nat → α) (d : α) (j : Nat) (h : j < n) : ((List.range n).map f).getD j d = f j := by simp [h]
theorem Ints.open {fuel : Nat} {v : Value} {x : DataW H × List MemPlace} (h : DataW.trod enc Tryd.prog W 0 (fun _ => true) true fuel 26 [v] = some x) (hw : Light 26 x.1) :
    ∃ xs : List Int, Ints W v xs ∧ ∀ i ∈ xs, -9223372036854775808 ≤ i ∧ i ≤ 9223372036854775807 := by
  obtain ⟨n, m, V, D, Q, h1, h2⟩ := open_sl Tryd.underlying26 (by kernel_rfl) (of_decide_eq_true (by kernel_rfl)) h hw
  obtain ⟨Z, hZ⟩ := choose_lt (α := Int) (p := fun i z => V i = .int .i64 z ∧ -9223372036854775808 ≤ z ∧ z ≤ 9223372036854775807) (fun i hi => by
    obtain ⟨z, h4, _, h5⟩ := DataW.trod_int Tryd.underlying3 (h2 i hi).1
    refine ⟨z, by simpa using h4, ?_⟩
    have e1 : IntKind.i64.min = -9223372036854775808 := rfl
    have e2 : IntKind.i64.max = 9223372036854775807 := rfl
    simp only [Lit.wf, Bool.and_eq_true, decide_eq_true_eq] at h5
    omega)
  refine ⟨(List.range n).map Z, ?_, ?_⟩
  · unfold Ints
    rw [List.length_map, List.length_range]
    exact h1.congr fun j hj => (hZ j (by omega)).1.trans (by rw [range_getD _ _ _ _ (by omega)])
  · intro i hi
    obtain ⟨j, hj, rfl⟩ := List.mem_map.1 hi
    exact (hZ j (List.mem_range.1 hj)).2
theorem Strs.open {fuel : Nat} {v : Value} {x : DataW H × List MemPlace} (h : DataW.trod enc Tryd.prog W 0 (fun _ => true) true fuel 25 [v] = some x) (hw : Light 25 x.1) :
    ∃ xs : List ByteArray, Strs W v xs := by
  obtain ⟨n, m, V, D, Q, h1, h2⟩ := open_sl Tryd.underlying25 (by kernel_rfl) (of_decide_eq_true (by kernel_rfl)) h hw
  obtain ⟨Z, hZ⟩ := choose_lt (α := ByteArray) (p := fun i z => V i = .string z ∧ z.size ≤ 140737488355328) (fun i hi => by
    obtain ⟨h3, h4⟩ := h2 i hi
    obtain ⟨z, h5, h6, _⟩ := DataW.trod_string Tryd.underlying9 h3
    simp only [Prod.mk.injEq] at h6
    rw [h6.1] at h4
    exact ⟨z, by simpa using h5, by simpa using light_string h4⟩)
  refine ⟨(List.range n).map Z, ?_, ?_⟩
  · rw [List.length_map, List.length_range]
    exact h1.congr fun j hj => (hZ j (by omega)).1.trans (by rw [range_getD _ _ _ _ (by omega)])
  · intro i hi
    obtain ⟨j, hj, rfl⟩ := List.mem_map.1 hi
    exact (hZ j (List.mem_range.1 hj)).2
end
section
variable {H : Type} {enc : TypeId × Value → H} {W : World}
theorem one_cell {v : Value} (ho : ∃ a n c, v = .slice a n c) : v.cells.toList = [v] := by obtain ⟨a, n, c, rfl⟩ := ho; rfl
theorem Ints.openT {v : Value} {d : DataW H} {ps : List MemPlace} (ho : ∃ a n c, v = .slice a n c) (h : DataW.Trod enc Tryd.prog W 0 (fun _ => true) true 26 v d ps) (hw : Light 26 d) :
    ∃ xs : List Int, Ints W v xs ∧ ∀ i ∈ xs, -9223372036854775808 ≤ i ∧ i ≤ 9223372036854775807 := by
  obtain ⟨fuel, h⟩ := h
  rw [one_cell ho] at h
  exact Ints.open h hw
theorem u8.openT {v : Value} {d : DataW H} {ps : List MemPlace} (h : ∃ n, v = .int .u8 n ∧ d = .lit (.int .u8 n) ∧ ps = [] ∧ (Lit.int .u8 n).wf = true) : ∃ n : Int, v = .int .u8 n ∧ 0 ≤ n ∧ n ≤ 255 := by
  obtain ⟨n, rfl, _, _, hw⟩ := h
  have e1 : IntKind.u8.min = 0 := rfl
  have e2 : IntKind.u8.max = 255 := rfl
  simp only [Lit.wf, Bool.and_eq_true, decide_eq_true_eq] at hw
  exact ⟨n, rfl, by omega, by omega⟩
theorem int.openT {v : Value} {d : DataW H} {ps : List MemPlace} (h : ∃ n, v = .int .i64 n ∧ d = .lit (.int .i64 n) ∧ ps = [] ∧ (Lit.int .i64 n).wf = true) : ∃ n : Int, v = .int .i64 n ∧ -9223372036854775808 ≤ n ∧ n ≤ 9223372036854775807 := by
  obtain ⟨n, rfl, _, _, hw⟩ := h
  exact ⟨n, rfl, wf_range hw⟩
theorem again_all (hl : laidOutB Tryd.prog = true) {W' : World} (hb : Below W.heap.size W W') : ∀ {ts : List TypeId} {vs : List Value} {ds : List (DataW H)} {ps : List MemPlace},
    (ts.all fun t => Tryd.prog.readableRec t && decide (t < Tryd.prog.types.size)) = true → DataW.TrodAll enc Tryd.prog W 0 (fun _ => true) true ts vs ds ps → (∀ x ∈ ps, x.block < W.heap.size) →
    DataW.TrodAll enc Tryd.prog W' 0 (fun b => decide (b < W.heap.size)) true ts vs ds ps := by
  intro ts
  induction ts with
  | nil => intro vs ds ps _ h _; obtain ⟨rfl, rfl, rfl⟩ := Go.ChangeShapes.trodAll_nil h; rfl
  | cons t ts ih =>
    intro vs ds ps ht h hlt
    obtain ⟨v, vs', d, ds', p, q, rfl, rfl, rfl, h1, h2⟩ := Go.ChangeShapes.trodAll_cons h
    simp only [List.all_cons, Bool.and_eq_true, decide_eq_true_eq] at ht
    exact ⟨p, q, Below.trod hl ht.1.1 ht.1.2 h1 hb (fun x hx => hlt x (List.mem_append_left _ hx)), ih (by simpa using ht.2) h2 (fun x hx => hlt x (List.mem_append_right _ hx)), rfl⟩
end
end Go.Proofs.YthnlnffmmioapaaDoor
namespace Go.Proofs.YthnlnffmmioapaaDoor
open Go.RowKit Go.Deep Go.WideShapes
variable {H : Type} {enc : TypeId × Value → H} {W : World}
theorem Str.openT {v : Value} {d : DataW H} {ps : List MemPlace} {t : TypeId} (h : ∃ s : ByteArray, v = .string s ∧ d = .lit (.string s.data.toList) ∧ ps = [] ∧ s.size ≤ maxLen) (hw : Light t d) : ∃ s : ByteArray, v = .string s ∧ s.size ≤ 140737488355328 := by
  obtain ⟨s, rfl, rfl, _, _⟩ := h
  exact ⟨s, rfl, by simpa using light_string hw⟩
end Go.Proofs.YthnlnffmmioapaaDoor
