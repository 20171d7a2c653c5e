/-
  Part 19 of the proof: Ho27, Li27, Lp27. No statement of the seat is proved here.
-/
import Derived.Test.YthnlnffmmioapaaGreatDoorMHCl2718
namespace Go.Proofs.YthnlnffmmioapaaGreatDoor
open Go.RowKit
theorem Pt.belowQ {w w' : World} {p : Value} {sz : Nat} {f : Nat → Value} (h : Pt w p sz f) (hb : Below w.heap.size w w') : Pt w' p sz f := by
  obtain ⟨b, o, h1, h2⟩ := h
  exact ⟨b, o, h1, fun j hj => (hb.cell (World.block_lt_of_cell? w _ (h2 j hj))).trans (h2 j hj)⟩
def Hld1 (x : Cnd) : Prop := ∀ (xv cv : Value) (b : List ByteArray) (r : Rdn) (w : World), Exp w x xv → QueV w b r cv → KfL w → wdsB b = true → rdgB r = true → SatV Tryz.prog 31 [xv, cv] w (.bool (x.hd b r.words r.src.length))
set_option maxRecDepth 100000 in
set_option maxHeartbeats 4000000 in
theorem holds1_sat (x : Cnd) (hx : Hld1 x) (xv p : Value) (bv wv sv : Value) (b : List ByteArray) (r : Rdn) (w : World) (hE : Exp w x xv) (hQ : QueV w b r (.agg #[bv, wv, sv])) (hp : Pt w p 3 (fun j => [bv, wv, sv].getD j undef)) (hk : KfL w) (hb : wdsB b = true) (hr : rdgB r = true) :
    SatV Tryz.prog 56 [xv, p] w (.bool (x.hd b r.words r.src.length)) := by
  have h1 := fun w1 (h : Below w.heap.size w w1) => hx xv _ b r w1 (hE.below h) (hQ.below h) (hk.below h) hb hr
  obtain ⟨pv, g, rfl, hs, _⟩ := hE.shape
  refine SatL.of 7 [3] Tryz.func56 (by kernel_rfl) (by kernel_rfl) rfl rfl rfl rfl ?_
  repeat' (first|(apply OK_seq)|(apply thenQ_n)|(apply OK_region)|(apply OKx_gl; refine OKx_ldRA rfl hp ?_)|(apply OKx_gc 31;exact rfl; refine OKx_callV (f := 31) rfl rfl rfl (fun w1 hp => h1 w1 hp.below) ?_)|(apply OKx_nilK)|(apply OK_ret)|(apply OKx_assign;(conv=>lhs;whnf)<;>exact rfl)|(apply OKx_boxA;exact rfl;intro _)|(apply OKx_ldBA;exact rfl; (apply atP;constructor);exact rfl))
  refine bodyQ_r1 (by ((conv=>lhs;whnf)<;>exact rfl)) ?_
  exact ⟨_, Ent.nil, rfl, rfl⟩
set_option maxRecDepth 100000 in
set_option maxHeartbeats 4000000 in
theorem holds2_sat (x : Cnd) (hx : Hld1 x) (xv p q : Value) (bv wv sv : Value) (b : List ByteArray) (r : Rdn) (w : World) (hE : Exp w x xv) (hQ : QueV w b r (.agg #[bv, wv, sv])) (hp : Pt w p 3 (fun j => [bv, wv, sv].getD j undef)) (hq : Pt1 w q (.func (.func 56) #[] #[p])) (hk : KfL w) (hb : wdsB b = true) (hr : rdgB r = true) :
    SatV Tryz.prog 58 [xv, q] w (.bool (!x.hd b r.words r.src.length)) := by
  have h1 := fun w1 (h : Below w.heap.size w w1) => holds1_sat x hx xv p bv wv sv b r w1 (hE.below h) (hQ.below h) (hp.belowQ h) (hk.below h) hb hr
  obtain ⟨pv, g, rfl, hs, _⟩ := hE.shape
  refine SatL.of 8 [3] Tryz.func58 (by kernel_rfl) (by kernel_rfl) rfl rfl rfl rfl ?_
  repeat' (first|(apply OK_seq)|(apply thenQ_n)|(apply OK_region)|(apply OKx_gl; refine OKx_ldR rfl hq ?_)|(apply OKx_gc 56;exact rfl; refine OKx_callB (f := 56) rfl rfl rfl (fun w1 hp => h1 w1 hp.below) ?_ ?_ <;> intro hqq)|(apply OKx_nilK)|(apply OK_ret)|(apply OKx_assign;(conv=>lhs;whnf)<;>exact rfl)|(apply OKx_notT;exact rfl)|(apply OKx_notF;exact rfl)|(apply OKx_boxA;exact rfl;intro _)|(apply OKx_ldBA;exact rfl; (apply atP;constructor);exact rfl))
  all_goals
    refine bodyQ_r1 (by ((conv=>lhs;whnf)<;>exact rfl)) ?_
    exact ⟨_, Ent.nil, by rw [hqq]; rfl, rfl⟩
set_option maxRecDepth 100000 in
set_option maxHeartbeats 4000000 in
theorem holds_sat : ∀ (k : Nat) (x : Cnd), x.depth ≤ k → x.own = true → Hld1 x
  | 0, x, hk, _ => by have := depth_pos x;omega
  | k + 1, x, hk, ho => by
    intro xv cv b r w hE hQ hkf hb hr
    obtain ⟨pv, g, rfl, hs, hP, hEs⟩ := hE.shape
    have hQ0 := hQ
    obtain ⟨bv, wv, sv, rfl, hB, hW, hS⟩ := hQ
    have hon := ho
    rw [own_eq, Bool.and_eq_true, List.all_eq_true] at hon
    obtain ⟨hnd, hon⟩ := hon
    obtain ⟨nd1, nd2, _, _, _, _, _, nd7, nd8⟩ := node_iff.1 hnd
    have ih : ∀ j, (hj : j < x.parts.length) → Hld1 x.parts[j] := fun j hj => holds_sat k _ (by have := depth_in (List.getElem_mem hj);omega) (hon _ (List.getElem_mem hj))
    rw [hd_eq]
    obtain ⟨i, hi⟩ := Int.eq_ofNat_of_zero_le (show 0 ≤ x.kind by omega)
    obtain ⟨ba, bc, rfl, hbl, _⟩ := hB.at
    obtain ⟨wa, wc, rfl, hwl, _⟩ := hW.at
    obtain ⟨sa, sc, rfl, hsl, _⟩ := hS.at
    have hP1 : ∀ (w1 : World) (gc : Nat), Below w.heap.size w w1 → Pt w1 (.pointer (some ⟨gc, 0, none⟩)) 3 (fun j => [.slice ba b.length bc, .slice wa r.words.length wc, .slice sa r.src.length sc].getD j undef) → SatV Tryz.prog 57 [pv, .func (.func 56) #[] #[.pointer (some ⟨gc, 0, none⟩)]] w1 (.bool (x.parts.any (Cnd.hd b r.words r.src.length))) := fun w1 gc hb1 hp => by
      have := containsF_exp_sat pv x.parts.length g (fun j => (x.parts.getD j default).hd b r.words r.src.length) 56 #[.pointer (some ⟨gc, 0, none⟩)] w1 (hP.below hb1) (fun j hj w2 hb2 => by
        rw [show x.parts.getD j default = x.parts[j] by simp [hj]]
        exact holds1_sat x.parts[j] (ih j hj) _ _ _ _ _ b r w2 (((hEs j hj).below hb1).below hb2) ((hQ0.below hb1).below hb2) (hp.belowQ hb2) ((hkf.below hb1).below hb2) hb hr)
      rwa [anyN_some (f := Cnd.hd b r.words r.src.length) (fun j hj => by simp [hj])] at this
    have hP2 : ∀ (w1 : World) (gc gp : Nat), Below w.heap.size w w1 → Pt w1 (.pointer (some ⟨gc, 0, none⟩)) 3 (fun j => [.slice ba b.length bc, .slice wa r.words.length wc, .slice sa r.src.length sc].getD j undef) → Pt1 w1 (.pointer (some ⟨gp, 0, none⟩)) (.func (.func 56) #[] #[.pointer (some ⟨gc, 0, none⟩)]) → SatV Tryz.prog 57 [pv, .func (.func 58) #[] #[.pointer (some ⟨gp, 0, none⟩)]] w1 (.bool (!(x.parts.all (Cnd.hd b r.words r.src.length)))) := fun w1 gc gp hb1 hp hq => by
      have := containsF_exp_sat pv x.parts.length g (fun j => !(x.parts.getD j default).hd b r.words r.src.length) 58 #[.pointer (some ⟨gp, 0, none⟩)] w1 (hP.below hb1) (fun j hj w2 hb2 => by
        rw [show x.parts.getD j default = x.parts[j] by simp [hj]]
        exact holds2_sat x.parts[j] (ih j hj) _ _ _ _ _ _ b r w2 (((hEs j hj).below hb1).below hb2) ((hQ0.below hb1).below hb2) (hp.belowQ hb2) (hq.below hb2) ((hkf.below hb1).below hb2) hb hr)
      rwa [anyN_not (f := Cnd.hd b r.words r.src.length) (fun j hj => by simp [hj])] at this
    by_cases h11 : x.kind = 11
    · rw [if_pos h11]
      refine SatL.of 38 [4] Tryz.func31 (by kernel_rfl) (by kernel_rfl) rfl rfl rfl rfl ?_
      repeat' (first|(apply OK_seq)|(apply thenQ_n)|(apply OK_region)|(apply OKx_gc 57;exact rfl; refine OKx_callB (f := 57) rfl rfl rfl (fun w1 hp => hP2 w1 _ _ hp.below ⟨_, _, rfl, fun j hj => by rw [Nat.zero_add, (hp.boxAt 1 rfl).1 j]; simp [hj]⟩ ⟨_, _, rfl, (hp.boxAt 0 rfl).1 0⟩) ?_ ?_ <;> intro hqq)|(apply OKx_nilK)|(apply OK_block)|(apply thenQ_r)|(apply blockQ_r)|(apply OK_condT;exact rfl)|(apply OK_ret)|(apply OKx_assign;(conv=>lhs;whnf)<;>exact rfl)|(apply OKx_ldB;exact rfl; (apply atP;constructor);exact rfl)|(apply OKx_eql;exact rfl;exact rfl;all_goals (intro _; try (exfalso;omega)))|(apply OKx_fldO;exact rfl;exact rfl)|(apply OKx_notT;exact rfl)|(apply OKx_notF;exact rfl)|(apply OKx_boxA;exact rfl;intro _)|(apply OKx_alloc1;intro _)|(apply OKx_stB;exact rfl;(conv=>lhs;whnf)<;>exact rfl;exact rfl;exact rfl; (apply atP;constructor);exact rfl;exact rfl;exact rfl)|(apply OKx_func;exact rfl;exact rfl))
      all_goals (try (exfalso;omega))
      all_goals
        refine bodyQ_r1 (by ((conv=>lhs;whnf)<;>exact rfl)) ?_
        refine ⟨_, Ent.nil, bool_eq ?_, rfl⟩
        simpa using hqq.symm
    rw [if_neg h11]
    by_cases h12 : x.kind = 12
    · rw [if_pos h12]
      refine SatL.of 38 [4] Tryz.func31 (by kernel_rfl) (by kernel_rfl) rfl rfl rfl rfl ?_
      repeat' (first|(apply OK_seq)|(apply thenQ_n)|(apply OK_region)|(apply OKx_gc 57;exact rfl; refine OKx_callV (f := 57) rfl rfl rfl (fun w1 hp => hP1 w1 _ hp.below ⟨_, _, rfl, fun j hj => by rw [Nat.zero_add, (hp.boxAt 1 rfl).1 j]; simp [hj]⟩) ?_)|(apply OKx_nilK)|(apply OK_block)|(apply thenQ_r)|(apply blockQ_r)|(apply OK_condT;exact rfl)|(apply OK_condF;exact rfl)|(apply OK_ret)|(apply OKx_assign;(conv=>lhs;whnf)<;>exact rfl)|(apply OKx_ldB;exact rfl; (apply atP;constructor);exact rfl)|(apply OKx_eql;exact rfl;exact rfl;all_goals (intro _; try (exfalso;omega)))|(apply OKx_fldO;exact rfl;exact rfl)|(apply OKx_boxA;exact rfl;intro _)|(apply OKx_alloc1;intro _)|(apply OKx_stB;exact rfl;(conv=>lhs;whnf)<;>exact rfl;exact rfl;exact rfl; (apply atP;constructor);exact rfl;exact rfl;exact rfl)|(apply OKx_func;exact rfl;exact rfl))
      all_goals (try (exfalso;omega))
      all_goals
        refine bodyQ_r1 (by ((conv=>lhs;whnf)<;>exact rfl)) ?_
        exact ⟨_, Ent.nil, rfl, rfl⟩
    rw [if_neg h12]
    by_cases h13 : x.kind = 13
    · rw [if_pos h13]
      have hpl : x.parts.length = 1 := by
        rw [h13] at nd7 nd8
        have e1 : lstK 13 = 1 := rfl
        have e2 : mstK 13 = 1 := rfl
        have := nd8 (by omega)
        omega
      have hx0 := fun (w1 : World) (gc : Nat) (hb1 : Below w.heap.size w w1) hp => holds1_sat x.parts[0] (ih 0 (by omega)) _ (.pointer (some ⟨gc, 0, none⟩)) _ _ _ b r w1 ((hEs 0 (by omega)).below hb1) (hQ0.below hb1) hp (hkf.below hb1) hb hr
      have hhd : (x.parts.map (Cnd.hd b r.words r.src.length)).headD false = (x.parts[0]'(by omega)).hd b r.words r.src.length := by
        obtain ⟨y, hy⟩ := List.length_eq_one_iff.1 hpl
        simp [hy]
      rw [hhd]
      refine SatL.of 38 [4] Tryz.func31 (by kernel_rfl) (by kernel_rfl) rfl rfl rfl rfl ?_
      repeat' (first|(apply OK_seq)|(apply thenQ_n)|(apply OK_region)|(apply OKx_gi; refine OKx_idxR2 (i := 0) rfl hP rfl (by omega) ?_;intro _ _)|(apply OKx_gc 56;exact rfl; refine OKx_callB (f := 56) rfl rfl rfl (fun w1 hp => hx0 w1 _ hp.below ⟨_, _, rfl, fun j hj => by rw [Nat.zero_add, (hp.boxAt 1 rfl).1 j]; simp [hj]⟩) ?_ ?_ <;> intro hqq)|(refine OK_rid 8 ?_; refine OK_quiet (id := 8) (by kernel_rfl) (by kernel_rfl) ?_)|(apply OKx_nilK)|(apply OK_block)|(apply thenQ_r)|(apply blockQ_r)|(apply OK_condT;exact rfl)|(apply OK_condF;exact rfl)|(apply OK_ret)|(apply OKx_assign;(conv=>lhs;whnf)<;>exact rfl)|(apply OKx_ldB;exact rfl; (apply atP;constructor);exact rfl)|(apply OKx_eql;exact rfl;exact rfl;all_goals (intro _; try (exfalso;omega)))|(apply OKx_fldO;exact rfl;exact rfl)|(apply OKx_notT;exact rfl)|(apply OKx_notF;exact rfl)|(apply OKx_boxA;exact rfl;intro _)|(apply OKx_alloc1;intro _)|(apply OKx_ldRA;(conv=>lhs;whnf)<;>exact rfl;(with_reducible assumption))|(apply OKx_stB;exact rfl;(conv=>lhs;whnf)<;>exact rfl;exact rfl;exact rfl; (apply atP;constructor);exact rfl;exact rfl;exact rfl)|(apply OKx_func;exact rfl;exact rfl))
      all_goals (try (exfalso;omega))
      all_goals
        refine bodyQ_r1 (by ((conv=>lhs;whnf)<;>exact rfl)) ?_
        exact ⟨_, Ent.nil, by rw [hqq]; rfl, rfl⟩
    rw [if_neg h13]
    obtain ⟨f, hf1, hf2⟩ : ∃ f, kfC i = .func (.func f) #[] #[] ∧ KndS f i := by
      have hi10 : i < 11 := by omega
      have hi1 : 0 < i := by omega
      clear hi
      match i, hi10, hi1 with
      | 1, _, _ => exact ⟨_, rfl, kind1_sat⟩
      | 2, _, _ => exact ⟨_, rfl, kind2_sat⟩
      | 3, _, _ => exact ⟨_, rfl, kind3_sat⟩
      | 4, _, _ => exact ⟨_, rfl, kind4_sat⟩
      | 5, _, _ => exact ⟨_, rfl, kind5_sat⟩
      | 6, _, _ => exact ⟨_, rfl, kind6_sat⟩
      | 7, _, _ => exact ⟨_, rfl, kind7_sat⟩
      | 8, _, _ => exact ⟨_, rfl, kind8_sat⟩
      | 9, _, _ => exact ⟨_, rfl, kind9_sat⟩
      | 10, _, _ => exact ⟨_, rfl, kind10_sat⟩
    have hi' : x.kind.toNat = i := by omega
    have hpt : Pt1 w (.pointer (some ⟨0, i, none⟩)) (.func (.func f) #[] #[]) := ⟨_, _, rfl, by rw [← hf1]; exact hkf i (by omega) (by omega)⟩
    have hcall := fun w1 (h : Below w.heap.size w w1) => hf2 _ _ x b r w1 (hE.below h) (hQ0.below h) hb hr
    rw [← hi] at hcall
    refine SatL.of 38 [4] Tryz.func31 (by kernel_rfl) (by kernel_rfl) rfl rfl rfl rfl ?_
    repeat' (first|(apply OK_seq)|(apply thenQ_n)|(apply OK_region)|(apply OKx_gi; refine OKx_idxAz Tryz.underlying81 rfl rfl (by omega) (by omega) ?_; rw [hi', Nat.zero_add])|(apply OKx_gl; refine OKx_ldR rfl hpt ?_)|(refine OKx_callV (f := f) rfl rfl rfl (fun w1 hp => hcall w1 hp.below) ?_)|(refine OK_rid 9 ?_; refine OK_quiet (id := 9) (by kernel_rfl) (by kernel_rfl) ?_)|(apply OKx_nilK)|(apply OK_block)|(apply blockQ_n)|(apply OK_condF;exact rfl)|(apply OK_skip)|(apply OK_ret)|(apply OKx_assign;(conv=>lhs;whnf)<;>exact rfl)|(apply OKx_ldB;exact rfl; (apply atP;constructor);exact rfl)|(apply OKx_eql;exact rfl;exact rfl;all_goals (intro _; try (exfalso;omega)))|(apply OKx_fldO;exact rfl;exact rfl)|(apply OKx_boxA;exact rfl;intro _)|(apply OKx_alloc1;intro _)|(apply OKx_ldBA;exact rfl; (apply atP;constructor);exact rfl)|(apply OKx_stB;exact rfl;(conv=>lhs;whnf)<;>exact rfl;exact rfl;exact rfl; (apply atP;constructor);exact rfl;exact rfl;exact rfl)|(apply OKx_func;exact rfl;exact rfl))
    all_goals (try (exfalso;omega))
    all_goals
      refine bodyQ_r1 (by ((conv=>lhs;whnf)<;>exact rfl)) ?_
      exact ⟨_, Ent.nil, rfl, rfl⟩
theorem que_build (a1 a2 a3 : Option Addr) (n1 n2 n3 c1 c2 c3 : Nat) : Instr.fill ([(0, 1), (1, 2)].toArray[·]?) #[.slice none 0 0, .slice none 0 0, .slice none 0 0] [(0, .slice a1 n1 c1), (1, .agg #[.slice a2 n2 c2, .slice a3 n3 c3])] = some #[.slice a1 n1 c1, .slice a2 n2 c2, .slice a3 n3 c3] := rfl
set_option maxRecDepth 100000 in
set_option maxHeartbeats 4000000 in
theorem Holds_sat (xv bv rv : Value) (x : Cnd) (b : List ByteArray) (r : Rdn) (w : World) (hE : Exp w x xv) (hB : Strs w bv b) (hR : RdnV w r rv) (hkd : KdL w) (hkf : KfL w) : SatV Tryz.prog 9 [xv, bv, rv] w (.tuple #[.bool (hldB x b r), .int .i64 (hldE x b r)]) := by
  have hC := fun w1 (h : Below w.heap.size w w1) => condition_sat xv x w1 (hE.below h) (hkd.below h)
  have hW := fun w1 (h : Below w.heap.size w w1) => words_sat bv b w1 (hB.below h)
  have hRd := fun w1 (h : Below w.heap.size w w1) => reading_sat rv r w1 (hR.below h)
  have hE0 := hE
  obtain ⟨pv, g, rfl, hs, _⟩ := hE.shape
  obtain ⟨ba, bc, rfl, hbl, _⟩ := hB.at
  obtain ⟨wv, sv, rfl, hWv, hSv⟩ := hR
  obtain ⟨wa, wc, rfl, hwl, _⟩ := hWv.at
  obtain ⟨sa, sc, rfl, hsl, _⟩ := hSv.at
  by_cases h0 : rgtE x = 0 ∧ wdsB b = true ∧ rdgB r = true
  · have hH := fun w1 (h : Below w.heap.size w w1) => holds_sat _ x (Nat.le_refl _) (rgtE_zero h0.1).2 _ (.agg #[.slice ba b.length bc, .slice wa r.words.length wc, .slice sa r.src.length sc]) b r w1 (hE0.below h) ⟨_, _, _, rfl, hB.below h, hWv.below h, hSv.below h⟩ (hkf.below h) h0.2.1 h0.2.2
    unfold hldB hldE
    rw [if_pos h0, decide_eq_true rfl, Bool.true_and]
    rw [h0.1, decide_eq_true rfl] at hC
    rw [h0.2.1] at hW
    rw [h0.2.2] at hRd
    refine SatL.of 26 [6, 7] Tryz.func9 (by kernel_rfl) (by kernel_rfl) rfl rfl rfl rfl ?_
    repeat' (first|(apply OK_seq)|(apply thenQ_n)|(apply OK_region)|(apply OKx_gc 28;exact rfl; refine OKx_callV (f := 28) rfl rfl rfl (fun w1 hp => hC w1 hp.below) ?_)|(apply OKx_gc 29;exact rfl; refine OKx_callV (f := 29) rfl rfl rfl (fun w1 hp => hW w1 hp.below) ?_)|(apply OKx_gc 30;exact rfl; refine OKx_callV (f := 30) rfl rfl rfl (fun w1 hp => hRd w1 hp.below) ?_)|(apply OKx_gc 31;exact rfl; refine OKx_callV (f := 31) rfl rfl rfl (fun w1 hp => hH w1 hp.below) ?_)|(refine OKx_buildG [(0, .slice ba b.length bc), (1, .agg #[.slice wa r.words.length wc, .slice sa r.src.length sc])] #[.slice ba b.length bc, .slice wa r.words.length wc, .slice sa r.src.length sc] rfl (que_build _ _ _ _ _ _ _ _ _) ?_)|(apply OKx_nilK)|(apply OK_condF;exact rfl)|(apply OK_skip)|(apply OK_ret)|(apply OKx_move;(conv=>lhs;whnf)<;>exact rfl)|(apply OKx_assign;(conv=>lhs;whnf)<;>exact rfl)|(apply OKx_pickF;exact rfl;(conv=>lhs;whnf)<;>exact rfl)|(apply OKx_guardT;exact rfl;exact rfl)|(apply OKx_notT;exact rfl)|(apply OKx_boxA;exact rfl;intro _)|(apply OKx_ldBA;exact rfl; (apply atP;constructor);exact rfl))
    refine bodyQ_r2 (by ((conv=>lhs;whnf)<;>exact rfl)) (by ((conv=>lhs;whnf)<;>exact rfl)) ?_
    exact ⟨_, Ent.nil, rfl, rfl⟩
  · unfold hldB hldE
    rw [if_neg h0, decide_eq_false (by decide), Bool.false_and]
    refine SatL.of 26 [6, 7] Tryz.func9 (by kernel_rfl) (by kernel_rfl) rfl rfl rfl rfl ?_
    repeat' (first|(apply OK_seq)|(apply thenQ_n)|(apply OK_region)|(apply OKx_gc 28;exact rfl; refine OKx_callB (f := 28) rfl rfl rfl (fun w1 hp => hC w1 hp.below) ?_ ?_ <;> intro q1)|(apply OKx_gc 29;exact rfl; refine OKx_callB (f := 29) rfl rfl rfl (fun w1 hp => hW w1 hp.below) ?_ ?_ <;> intro q2)|(apply OKx_gc 30;exact rfl; refine OKx_callB (f := 30) rfl rfl rfl (fun w1 hp => hRd w1 hp.below) ?_ ?_ <;> intro q3; (try exact absurd ⟨of_decide_eq_true q1, q2, q3⟩ h0))|(apply OKx_nilK)|(apply thenQ_r)|(apply OK_condT;exact rfl)|(apply OK_ret)|(apply OKx_move;(conv=>lhs;whnf)<;>exact rfl)|(apply OKx_assign;(conv=>lhs;whnf)<;>exact rfl)|(apply OKx_pickT;exact rfl;(conv=>lhs;whnf)<;>exact rfl)|(apply OKx_pickF;exact rfl;(conv=>lhs;whnf)<;>exact rfl)|(apply OKx_guardT;exact rfl;exact rfl)|(apply OKx_guardF;exact rfl;exact rfl)|(apply OKx_notT;exact rfl)|(apply OKx_notF;exact rfl)|(apply OKx_boxA;exact rfl;intro _)|(apply OKx_ldBA;exact rfl; (apply atP;constructor);exact rfl))
    all_goals
      refine bodyQ_r2 (by ((conv=>lhs;whnf)<;>exact rfl)) (by ((conv=>lhs;whnf)<;>exact rfl)) ?_
      exact ⟨_, Ent.nil, rfl, rfl⟩
end Go.Proofs.YthnlnffmmioapaaGreatDoor
namespace Go.Proofs.YthnlnffmmioapaaGreatDoor
open Go.RowKit
section
variable {P : Program} {n : Nat} {w0 : World} {K : Fm → List Res → Prop} {F : Fm} {L : List Res} {m : Md} {ops : Array Oper} {rest : List Oper} {d : Option Nat} {ty : TypeId} {pos : String} {aft : Array Edge}
theorem OKx_ldB1 {t sz : Nat} {zs : List Value} [T : TAgg P t sz zs] {x : Operand} {g : Nat} (i : Nat) {e : TypeId} {a : Value} {vs : List Value} (hx : rv n F x = .pointer (some ⟨g, 1, none⟩)) (hi : L[i]? = some (.box e g (a :: vs))) (hl : vs.length = sz)
    (kk : OKx P n w0 m ops K rest (updo F d (.agg vs.toArray)) L) : OKx P n w0 m ops K (⟨d, .load t x, ty, pos, aft, none⟩ :: rest) F L :=
  OKx_still (fun w hp _ _ _ _ => run_loadA T hx hl (fun j hj => by
    rw [(hp.boxAt i hi).1 (1 + j), Nat.add_comm]
    rfl) _ _ _ _) kk
theorem OKx_slHq {t e sz bytes : Nat} {z : Value} [T : TSlice P t e sz bytes z] {x hi : Operand} {a : Option Addr} {len cap h : Nat} {k : IntKind} (hx : rv n F x = .slice a len cap) (hh : rv n F hi = .int k (h : Int)) (h1 : h ≤ cap)
    (kk : OKx P n w0 m ops K rest (updo F d (.slice a h cap)) L) : OKx P n w0 m ops K (⟨d, .slice t x none (some hi) none, ty, pos, aft, none⟩ :: rest) F L :=
  OKx_still (fun w _ _ _ _ _ => run_sl T hx w _ _ _ _ (by
    have := run_slice_h (P := P) (w := w) t a len cap T.und' k (h : Int) (by omega) (by omega)
    rw [T.elem, T.size] at this
    simp only [Option.map_none, Option.map_some, hh, this, Result.andThen, sliced, Int.toNat_natCast, Nat.zero_mul, Nat.sub_zero]
    cases a <;> simp [Addr.add])) kk
end
def lineL (r : Rul) : List UInt8 := byts r.name ++ 58 :: 32 :: (r.cnd.prt ++ [10])
theorem linL_step (rs : List Rul) (j : Nat) (h : j < rs.length) : linL (rs.take (j + 1)) = linL (rs.take j) ++ lineL rs[j] := by
  unfold linL
  rw [List.take_succ_eq_append_getElem h, List.map_append, List.flatten_append]
  simp [lineL]
theorem linL_len (B : Nat) : ∀ rs : List Rul, (∀ r ∈ rs, (lineL r).length ≤ B) → (linL rs).length ≤ B * rs.length
  | [], _ => by simp [linL]
  | r :: rs, h => by
    have ih := linL_len B rs fun y hy => h y (List.mem_cons_of_mem _ hy)
    have h1 := h r List.mem_cons_self
    have e : linL (r :: rs) = lineL r ++ linL rs := rfl
    rw [e, List.length_append, List.length_cons, Nat.mul_succ]
    omega
def rulOk (r : Rul) : Prop := rgtE r.cnd = 0 ∧ r.name.size ≤ 64
theorem rulOk_len {r : Rul} (h : rulOk r) : (lineL r).length ≤ 6553700 ∧ r.cnd.prt.length ≤ 6553600 := by
  obtain ⟨h1, h2⟩ := rgtE_zero h.1
  have h3 := prt_len _ r.cnd (Nat.le_refl _) h2
  unfold mesB at h1
  rw [Bool.and_eq_true, decide_eq_true_eq, decide_eq_true_eq] at h1
  have h4 := h.2
  have hb := byts_len r.name
  unfold lineL
  simp only [List.length_append, List.length_cons, List.length_nil]
  omega
set_option maxRecDepth 100000 in
set_option maxHeartbeats 4000000 in
theorem lines_sat (lv : Value) (rs : List Rul) (w : World) (hR : Ruls w lv rs) (hkd : KdL w) (ht : TbL w) (hl : rs.length ≤ 64) (hok : ∀ r ∈ rs, rulOk r) : SatV Tryz.prog 71 [lv] w (.string (bOf (linL rs))) := by
  obtain ⟨g, hS, hE, hcp⟩ := hR
  have hbd : ∀ j, (linL (rs.take j)).length ≤ 419436800 := fun j => by
    have := linL_len 6553700 (rs.take j) fun r hr => (rulOk_len (hok r (List.mem_of_mem_take hr))).1
    have h2 : (rs.take j).length ≤ 64 := by rw [List.length_take];omega
    have h3 : 6553700 * (rs.take j).length ≤ 6553700 * 64 := Nat.mul_le_mul_left _ h2
    omega
  refine SatL.of 22 [2] Tryz.func71 (by kernel_rfl) (by kernel_rfl) rfl rfl rfl rfl ?_
  repeat' (first|(apply OK_seq)|(apply thenQ_n)|(apply OK_region)|(apply OKx_nilK)|(apply OK_block)|(apply OKx_move;(conv=>lhs;whnf)<;>exact rfl)|(apply OKx_assign;(conv=>lhs;whnf)<;>exact rfl)|(apply OKx_lenR2;(conv=>lhs;whnf)<;>exact rfl;(with_reducible assumption))|(apply OKx_allocA;intro _))
  rename_i b
  refine OK_ent (L' := bldL b (.pointer none) (.slice none 0 0) [] ++ []) (Ent.mk fun w1 hp => (hp.nil 5 1).perm (List.Perm.swap _ _ _)) ?_
  refine OK_loop1 8 [5, 8, 9, 10, 11, 12, 13, 14, 15, 16, 17, 18, 19, 20] (fun m v L => ∃ (j : Nat) (p2 v2 : Value), j + m = rs.length ∧ v = .int .i64 (j : Int) ∧ bldP b p2 ∧ L = bldL b p2 v2 (linL (rs.take j)) ++ []) rs.length _ (Ent.refl _ _) ⟨0, .pointer none, .slice none 0 0, by omega, rfl, .inl rfl, rfl⟩ ?_
  rintro m vj L G ⟨j, p2, v2, hm, rfl, hp2, rfl⟩
  by_cases hj : j < rs.length
  · have hb0 := hbd (j + 1)
    rw [linL_step rs j hj] at hb0
    have hok1 := hok _ (List.getElem_mem hj)
    have hln := rulOk_len hok1
    have hbn := byts_len rs[j].name
    obtain ⟨a1, a2, a3, a4, hag, hEx, hnz⟩ := hE j hj
    obtain ⟨pvj, gj, hej, hsj, hPj, _⟩ := hEx.shape
    obtain ⟨_, aj, cj, rfl, _⟩ := id hPj
    have hag2 := Value.agg.inj hag
    have hej2 := Value.agg.inj hej
    simp only [Array.mk.injEq, List.cons.injEq, and_true] at hag2 hej2
    obtain ⟨e0, e1, e2, e3, e4⟩ := hag2
    obtain ⟨rfl, rfl, rfl, rfl⟩ := hej2
    have heq : ((List.range 5).map (g j)).toArray = #[.string rs[j].name, .int .i64 rs[j].cnd.kind, .int .i64 rs[j].cnd.num, .string rs[j].cnd.text, .slice aj rs[j].cnd.parts.length cj] := by
      show #[g j 0, g j 1, g j 2, g j 3, g j 4] = _
      rw [e0, e1, e2, e3, e4]
    have hnm : Value.string rs[j].name = .string (bOf (byts rs[j].name)) := by rw [show bOf (byts rs[j].name) = rs[j].name from bOf_data _]
    have hW := write_sat _ rs[j].cnd (Nat.le_refl _) (rgtE_zero hok1.1).2
    have hpr : bldP b (.pointer (some ⟨b, 0, none⟩)) := .inr rfl
    have hll : (lineL rs[j]).length = (byts rs[j].name).length + 2 + rs[j].cnd.prt.length + 1 := by unfold lineL; simp;omega
    rw [List.length_append, hll] at hb0
    repeat' (first|(apply OK_seq)|(apply thenQ_n)|(apply OK_region)|(apply OKx_gl; refine OKx_ldB1 2 rfl rfl rfl ?_)|(apply OKx_gi; refine OKx_idxR2 (i := j) rfl hS rfl hj ?_; intro pp hpp)|(apply OKx_gl; refine OKx_ldRA rfl hpp ?_; rw [heq])|(refine OKx_sadd7 (a := byts rs[j].name) (b := [58, 32]) (c := byts rs[j].name ++ [58, 32]) hnm rfl (by simp;omega) rfl ?_)|(apply OKx_gc 88;exact rfl; refine OKx_ent (Ent.perm (perm21 _ _ _ _)) ?_; refine OKx_callL (f := 88) rfl rfl (bldW_sat b p2 v2 (linL (rs.take j)) (bOf (byts rs[j].name ++ [58, 32])) w _ hp2 (by rw [bOf_size]; simp;omega)) ?_; rintro _ _ ⟨rfl, v3, rfl⟩)|(apply OKx_gc 89;exact rfl; refine OKx_callL (f := 89) rfl rfl (hW _ b _ v3 (linL (rs.take j) ++ (byts rs[j].name ++ [58, 32])) w _ hEx hkd ht hpr (by simp;omega)) ?_; rintro _ _ ⟨rfl, p4, v4, hp4, rfl⟩)|(apply OKx_gc 90;exact rfl; refine OKx_callL (f := 90) rfl rfl (bldB_sat b p4 v4 (linL (rs.take j) ++ (byts rs[j].name ++ [58, 32]) ++ rs[j].cnd.prt) 10 w _ hp4 (by simp;omega)) ?_; rintro _ _ ⟨rfl, v5, rfl⟩)|(apply OKx_nilK)|(apply OK_block)|(apply blockQ_n)|(apply OK_condT;exact rfl)|(apply OK_skip)|(apply OKx_move;(conv=>lhs;whnf)<;>exact rfl)|(apply OKx_ldB;exact rfl; (apply atP;constructor);exact rfl)|(apply OKx_lss;exact rfl;exact rfl;all_goals (intro _; try (exfalso;omega)))|(apply OKx_fldO;exact rfl;exact rfl)|(apply OKx_inc;exact rfl;exact rfl;omega)|(apply OKx_allocA;intro _)|(apply OKx_stBA; kernel_rfl;exact rfl;exact rfl;exact rfl; (apply atP;constructor);exact rfl;exact rfl;exact rfl))
    refine ⟨by (repeat' (first | refine agree_upd rfl ?_ | exact agree_over | exact agree_refl _ _ | refine agree_over2 rfl ?_)), m - 1, _, by omega, Ent.sub (List.Sublist.append (List.Sublist.refl _) (List.sublist_cons_self _ _)), ?_⟩
    exact ⟨j + 1, _, v5, by omega, rfl, hpr, by rw [show linL (rs.take (j + 1)) = linL (rs.take j) ++ (byts rs[j].name ++ [58, 32]) ++ rs[j].cnd.prt ++ [10] by rw [linL_step rs j hj]; unfold lineL; simp]; rfl⟩
  · obtain rfl : j = rs.length := by omega
    rw [List.take_length]
    repeat' (first|(apply OK_seq)|(apply thenQ_n)|(apply OK_region)|(apply OKx_gc 91;exact rfl; refine OKx_callL (f := 91) rfl rfl (bldStr_sat b p2 v2 (linL rs) w [] hp2) ?_; rintro _ _ ⟨rfl, rfl⟩)|(apply OKx_nilK)|(apply blockQ_s)|(apply thenQ_e)|(apply OK_condF;exact rfl)|(apply OK_exit)|(apply OK_ret)|(apply OKx_assign;(conv=>lhs;whnf)<;>exact rfl)|(apply OKx_lss;exact rfl;exact rfl;all_goals (intro _; try (exfalso;omega))))
    refine bodyQ_r1 (by ((conv=>lhs;whnf)<;>exact rfl)) ?_
    exact ⟨_, Ent.nil, rfl, rfl⟩
set_option maxRecDepth 100000 in
set_option maxHeartbeats 4000000 in
theorem isN27_sat (s : ByteArray) (w : World) (hs : s.size ≤ 140737488355328) : SatV Tryz.prog 67 [.string s] w (.bool (isNm s)) :=
  Sat.lib ⟨_, _, Tryz.func67, by kernel_rfl, rfl⟩ fun w1 _ => (isName_any s w1 hs).mono fun e w' ⟨h1, h2⟩ => ⟨_, [], h1, by rw [← h2]; exact Hp.refl _, rfl, rfl⟩
theorem RulV.lit {w : World} {r : Rul} {v : Value} (h : RulV w r v) : ∃ a c, v = .agg #[.string r.name, .int .i64 r.cnd.kind, .int .i64 r.cnd.num, .string r.cnd.text, .slice a r.cnd.parts.length c] ∧ Exp w r.cnd (.agg #[.int .i64 r.cnd.kind, .int .i64 r.cnd.num, .string r.cnd.text, .slice a r.cnd.parts.length c]) ∧ r.name.size ≤ 140737488355328 := by
  obtain ⟨a1, a2, a3, a4, rfl, hEx, hn⟩ := h
  obtain ⟨pv, g, he, hs, hP, _⟩ := hEx.shape
  obtain ⟨_, aj, cj, rfl, _⟩ := id hP
  rw [he] at hEx
  have := Value.agg.inj he
  simp only [Array.mk.injEq, List.cons.injEq, and_true] at this
  obtain ⟨rfl, rfl, rfl, rfl⟩ := this
  exact ⟨_, _, rfl, hEx, hn⟩
set_option maxRecDepth 100000 in
set_option maxHeartbeats 4000000 in
theorem chk1_sat (r : Rul) (nm : ByteArray) (v : Value) (gx : Nat) (w : World) (h : RulV w r v) (hp : Pt1 w (.pointer (some ⟨gx, 0, none⟩)) (.string nm)) : SatV Tryz.prog 69 [v, .pointer (some ⟨gx, 0, none⟩)] w (.bool (decide (r.name = nm))) := by
  obtain ⟨a, c, rfl, _, _⟩ := h.lit
  refine SatL.of 9 [3] Tryz.func69 (by kernel_rfl) (by kernel_rfl) rfl rfl rfl rfl ?_
  repeat' (first|(apply OK_seq)|(apply thenQ_n)|(apply OK_region)|(apply OKx_gl; refine OKx_ldR rfl hp ?_)|(apply OKx_nilK)|(apply OK_ret)|(apply OKx_assign;(conv=>lhs;whnf)<;>exact rfl)|(apply OKx_ldB;exact rfl; (apply atP;constructor);exact rfl)|(apply OKx_seql;exact rfl;exact rfl; all_goals intro _)|(apply OKx_fldO;exact rfl;exact rfl)|(apply OKx_boxA;exact rfl;intro _))
  all_goals
    refine bodyQ_r1 (by ((conv=>lhs;whnf)<;>exact rfl)) ?_
    refine ⟨_, Ent.nil, bool_eq ?_, rfl⟩
  all_goals first
    | rw [decide_eq_true (by assumption)]
    | rw [decide_eq_false (by assumption)]
theorem rulsF_step (seen : List ByteArray) (r : Rul) (rs : List Rul) : rulsF seen (r :: rs) = if isNm r.name = false ∨ r.name = ⟨#[98, 97, 115, 101]⟩ ∨ r.name = ⟨#[111, 116, 104, 101, 114]⟩ then 14 else if seen.any (fun y => decide (y = r.name)) = true then 7 else if rgtE r.cnd ≠ 0 then rgtE r.cnd else rulsF (seen ++ [r.name]) rs := rfl
theorem isNm_size {s : ByteArray} (h : isNm s = true) : s.size ≤ 16 := by
  unfold isNm at h
  simp only [Bool.and_eq_true, decide_eq_true_eq] at h
  omega
set_option maxRecDepth 100000 in
set_option maxHeartbeats 4000000 in
theorem Check_sat (lv : Value) (rs : List Rul) (w : World) (hR : Ruls w lv rs) (hkd : KdL w) (ht : TbL w) : SatV Tryz.prog 42 [lv] w (.int .i64 (rulE rs)) := by
  have hR0 := hR
  obtain ⟨g, hS, hE, hcp⟩ := hR
  obtain ⟨hbd, la, lc, rfl, hcell⟩ := id hS
  by_cases h64 : 64 < rs.length
  · have he : rulE rs = 4 := by unfold rulE; rw [if_pos h64]
    rw [he]
    refine SatL.of 46 [2] Tryz.func42 (by kernel_rfl) (by kernel_rfl) rfl rfl rfl rfl ?_
    repeat' (first|(apply OK_seq)|(apply thenQ_n)|(apply OK_region)|(apply OKx_nilK)|(apply thenQ_r)|(apply OK_condT;exact rfl)|(apply OK_ret)|(apply OKx_move;(conv=>lhs;whnf)<;>exact rfl)|(apply OKx_assign;(conv=>lhs;whnf)<;>exact rfl)|(apply OKx_len;exact rfl)|(apply OKx_gtr;exact rfl;exact rfl;all_goals (intro _; try (exfalso;omega))))
    all_goals (try (exfalso;omega))
    refine bodyQ_r1 (by ((conv=>lhs;whnf)<;>exact rfl)) ?_
    exact ⟨_, Ent.nil, rfl, rfl⟩
  have he : rulE rs = if rulsF [] rs ≠ 0 then rulsF [] rs else if 65536 < (linL rs).length then 4 else 0 := by unfold rulE; rw [if_neg h64]
  refine SatL.of 46 [2] Tryz.func42 (by kernel_rfl) (by kernel_rfl) rfl rfl rfl rfl ?_
  repeat' (first|(apply OK_seq)|(apply thenQ_n)|(apply OK_region)|(apply OKx_nilK)|(apply OK_block)|(apply OK_condF;exact rfl)|(apply OK_skip)|(apply OKx_move;(conv=>lhs;whnf)<;>exact rfl)|(apply OKx_assign;(conv=>lhs;whnf)<;>exact rfl)|(apply OKx_len;exact rfl)|(apply OKx_gtr;exact rfl;exact rfl;all_goals (intro _; try (exfalso;omega))))
  all_goals (try (exfalso;omega))
  refine OK_loop1 11 [2, 3, 4, 5, 11, 12, 13, 14, 15, 16, 17, 18, 19, 20, 21, 22, 23, 24, 25, 26, 27, 28, 29, 30, 31, 32, 33, 34, 35, 36, 37, 38, 39, 40, 41] (fun m v L => ∃ j : Nat, j + m = rs.length ∧ v = .int .i64 (j : Int) ∧ (∀ r ∈ rs.take j, rulOk r) ∧ rulsF [] rs = rulsF ((rs.take j).map Rul.name) (rs.drop j) ∧ L = []) rs.length _ (Ent.refl _ _) ⟨0, by omega, rfl, by simp, rfl, rfl⟩ ?_
  rintro m vj L G ⟨j, hm, rfl, hok, hF, rfl⟩
  by_cases hj : j < rs.length
  · rw [List.drop_eq_getElem_cons hj, rulsF_step] at hF
    obtain ⟨aj, cj, hag, hEx, hnz⟩ := (hE j hj).lit
    have heq : ((List.range 5).map (g j)).toArray = #[.string rs[j].name, .int .i64 rs[j].cnd.kind, .int .i64 rs[j].cnd.num, .string rs[j].cnd.text, .slice aj rs[j].cnd.parts.length cj] := Value.agg.inj hag
    have hI := fun w1 => isN27_sat rs[j].name w1 hnz
    have hE14 : (isNm rs[j].name = false ∨ rs[j].name = ⟨#[98, 97, 115, 101]⟩ ∨ rs[j].name = ⟨#[111, 116, 104, 101, 114]⟩) → rulE rs = 14 := fun h => by
      have e : rulsF [] rs = 14 := by rw [hF, if_pos h]
      rw [he, if_pos (by rw [e]; decide), e]
    have hE7 : ¬(isNm rs[j].name = false ∨ rs[j].name = ⟨#[98, 97, 115, 101]⟩ ∨ rs[j].name = ⟨#[111, 116, 104, 101, 114]⟩) → ((rs.take j).map Rul.name).any (fun y => decide (y = rs[j].name)) = true → rulE rs = 7 := fun h h2 => by
      have e : rulsF [] rs = 7 := by rw [hF, if_neg h, if_pos h2]
      rw [he, if_pos (by rw [e]; decide), e]
    have hEr : ¬(isNm rs[j].name = false ∨ rs[j].name = ⟨#[98, 97, 115, 101]⟩ ∨ rs[j].name = ⟨#[111, 116, 104, 101, 114]⟩) → ((rs.take j).map Rul.name).any (fun y => decide (y = rs[j].name)) = false → rgtE rs[j].cnd ≠ 0 → rulE rs = rgtE rs[j].cnd := fun h h2 h3 => by
      have e : rulsF [] rs = rgtE rs[j].cnd := by rw [hF, if_neg h, if_neg (by rw [h2]; decide), if_pos h3]
      rw [he, if_pos (by rw [e]; exact h3), e]
    have hEn : ¬(isNm rs[j].name = false ∨ rs[j].name = ⟨#[98, 97, 115, 101]⟩ ∨ rs[j].name = ⟨#[111, 116, 104, 101, 114]⟩) → ((rs.take j).map Rul.name).any (fun y => decide (y = rs[j].name)) = false → rgtE rs[j].cnd = 0 → rulsF [] rs = rulsF ((rs.take (j + 1)).map Rul.name) (rs.drop (j + 1)) := fun h h2 h3 => by
      rw [hF, if_neg h, if_neg (by rw [h2]; decide), if_neg (fun hh => hh h3), List.take_succ_eq_append_getElem hj, List.map_append]
      rfl
    have hno : isNm rs[j].name = true → rs[j].name ≠ ⟨#[98, 97, 115, 101]⟩ → rs[j].name ≠ ⟨#[111, 116, 104, 101, 114]⟩ → ¬(isNm rs[j].name = false ∨ rs[j].name = ⟨#[98, 97, 115, 101]⟩ ∨ rs[j].name = ⟨#[111, 116, 104, 101, 114]⟩) := by
      rintro h1 h2 h3 (h | h | h)
      · rw [h1] at h; cases h
      · exact h2 h
      · exact h3 h
    have hOk : isNm rs[j].name = true → rgtE rs[j].cnd = 0 → ∀ r ∈ rs.take (j + 1), rulOk r := fun h1 h2 r hr => by
      rw [List.take_succ_eq_append_getElem hj] at hr
      rcases List.mem_append.1 hr with hr | hr
      · exact hok r hr
      · rw [List.mem_singleton.1 hr]
        have := isNm_size h1
        exact ⟨h2, by omega⟩
    have hRt := fun w1 (h : Below w.heap.size w w1) => right_sat _ rs[j].cnd w1 (hEx.below h) (hkd.below h)
    have hC : ∀ (w1 : World) (gx : Nat), Below w.heap.size w w1 → w1.cell? ⟨gx, 0, none⟩ = some (.string rs[j].name) → SatV Tryz.prog 68 [.slice la j lc, .func (.func 69) #[] #[.pointer (some ⟨gx, 0, none⟩)]] w1 (.bool (((rs.take j).map Rul.name).any fun y => decide (y = rs[j].name))) := fun w1 gx hb hg => by
      have hs2 : Sl2 w1 (.slice la j lc) 5 j g := by
        refine Sl2.below (w := w) ⟨by omega, la, lc, rfl, ?_⟩ hb
        rcases hcell with h0 | ⟨b0, o0, e0, hc⟩
        · exact .inl (by omega)
        · exact .inr ⟨b0, o0, e0, fun i hi c hc2 => hc i (by omega) c hc2⟩
      have := containsF_rul_sat _ j g (fun i => decide ((rs.getD i default).name = rs[j].name)) 69 #[.pointer (some ⟨gx, 0, none⟩)] w1 hs2 (fun i hi w2 hb2 => by
        rw [show rs.getD i default = rs[i]'(by omega) by simp [show i < rs.length by omega]]
        exact chk1_sat _ _ _ _ w2 (((hE i (by omega)).below hb).below hb2) (Pt1.below ⟨_, _, rfl, hg⟩ hb2))
      have e1 : anyN (fun i => decide ((rs.getD i default).name = rs[j].name)) j = (((rs.take j).map Rul.name).any fun y => decide (y = rs[j].name)) := by
        have hl : ((rs.take j).map Rul.name).length = j := by simp;omega
        have := anyN_some (xs := (rs.take j).map Rul.name) (f := fun y => decide (y = rs[j].name)) (p := fun i => decide ((rs.getD i default).name = rs[j].name)) (fun i hi => by
          have hi' : i < j := by omega
          simp [show i < rs.length by omega])
        rwa [hl] at this
      rwa [e1] at this
    repeat' (first|(apply OK_seq)|(apply thenQ_n)|(apply OK_region)|(apply OKx_gi; refine OKx_idxR2 (i := j) rfl hS rfl hj ?_; intro pp hpp)|(apply OKx_gl; refine OKx_ldRA rfl hpp ?_; rw [heq])|(apply OKx_gl; refine OKx_ldB1 0 rfl rfl rfl ?_)|(apply OKx_gc 67;exact rfl; refine OKx_callB (f := 67) rfl rfl rfl (fun w1 hp => hI w1) ?_ ?_ <;> intro q1)|(refine OKx_slHq rfl rfl (by have := hcp _ _ _ rfl;omega) ?_)|(apply OKx_gc 68;exact rfl; refine OKx_callB (f := 68) rfl rfl rfl (fun w1 hp => hC w1 _ hp.below ((hp.boxAt 0 rfl).1 0)) ?_ ?_ <;> intro q2)|(apply OKx_gc 70;exact rfl; refine OKx_callV (f := 70) rfl rfl rfl (fun w1 hp => hRt w1 hp.below) ?_)|(apply OKx_nilK)|(apply OK_block)|(apply blockQ_n)|(apply thenQ_r)|(apply blockQ_r)|(apply OK_condT;exact rfl)|(apply OK_condF;exact rfl)|(apply OK_skip)|(apply OK_ret)|(apply OKx_move;(conv=>lhs;whnf)<;>exact rfl)|(apply OKx_assign;(conv=>lhs;whnf)<;>exact rfl)|(apply OKx_ldB;exact rfl; (apply atP;constructor);exact rfl)|(apply OKx_lss;exact rfl;exact rfl;all_goals (intro _; try (exfalso;omega)))|(apply OKx_neq;exact rfl;exact rfl;all_goals (intro _; try (exfalso;omega)))|(apply OKx_seql;exact rfl;exact rfl; all_goals intro _)|(apply OKx_fldO;exact rfl;exact rfl)|(apply OKx_inc;exact rfl;exact rfl;omega)|(apply OKx_pickT;exact rfl;(conv=>lhs;whnf)<;>exact rfl)|(apply OKx_pickF;exact rfl;(conv=>lhs;whnf)<;>exact rfl)|(apply OKx_guardT;exact rfl;exact rfl)|(apply OKx_guardF;exact rfl;exact rfl)|(apply OKx_notT;exact rfl)|(apply OKx_notF;exact rfl)|(apply OKx_allocA;intro _)|(apply OKx_func;exact rfl;exact rfl)|(apply OKx_stBA; kernel_rfl;exact rfl;exact rfl;exact rfl; (apply atP;constructor);exact rfl;exact rfl;exact rfl))
    all_goals (try (exfalso;omega))
    all_goals first
      | ((refine bodyQ_r1 (by ((conv=>lhs;whnf)<;>exact rfl)) ?_)
         refine ⟨_, Ent.nil, int_eq ?_, rfl⟩
         first
           | exact (hE14 (.inl q1)).symm
           | exact (hE14 (.inr (.inl (by assumption)))).symm
           | exact (hE14 (.inr (.inr (by assumption)))).symm
           | exact (hE7 (hno q1 (by assumption) (by assumption)) q2).symm
           | exact (hEr (hno q1 (by assumption) (by assumption)) q2 (by assumption)).symm)
      | (refine ⟨by (repeat' (first | refine agree_upd rfl ?_ | exact agree_over | exact agree_refl _ _ | refine agree_over2 rfl ?_)), m - 1, _, by omega, Ent.nil, ?_⟩
         exact ⟨j + 1, by omega, rfl, hOk q1 (by assumption), hEn (hno q1 (by assumption) (by assumption)) q2 (by assumption), rfl⟩)
  · obtain rfl : j = rs.length := by omega
    rw [List.take_length] at hok
    have h0 : rulsF [] rs = 0 := by rw [hF, List.drop_length]; rfl
    have hLn := fun w1 (h : Below w.heap.size w w1) => lines_sat _ rs w1 (hR0.below h) (hkd.below h) (ht.below h) (by omega) hok
    have hls : (bOf (linL rs)).size = (linL rs).length := bOf_size _
    rw [he, if_neg (fun hh => hh h0)]
    repeat' (first|(apply OK_seq)|(apply thenQ_n)|(apply OK_region)|(apply OKx_gc 71;exact rfl; refine OKx_callV (f := 71) rfl rfl rfl (fun w1 hp => hLn w1 hp.below) ?_)|(apply OKx_nilK)|(apply blockQ_s)|(apply thenQ_e)|(apply thenQ_r)|(apply OK_condT;exact rfl)|(apply OK_condF;exact rfl)|(apply OK_skip)|(apply OK_exit)|(apply OK_ret)|(apply OKx_move;(conv=>lhs;whnf)<;>exact rfl)|(apply OKx_assign;(conv=>lhs;whnf)<;>exact rfl)|(apply OKx_lenS;exact rfl)|(apply OKx_lss;exact rfl;exact rfl;all_goals (intro _; try (exfalso;omega)))|(apply OKx_gtr;exact rfl;exact rfl;all_goals (intro _; try (exfalso;omega))))
    all_goals (try (exfalso;omega))
    all_goals
      refine bodyQ_r1 (by ((conv=>lhs;whnf)<;>exact rfl)) ?_
      exact ⟨_, Ent.nil, by first | rw [if_pos (by omega)] | rw [if_neg (by omega)], rfl⟩
end Go.Proofs.YthnlnffmmioapaaGreatDoor
namespace Go.Proofs.YthnlnffmmioapaaGreatDoor
theorem hd_leaf (k n : Int) (s : ByteArray) (b ws : List ByteArray) (ns : Nat) (h : k < 11) : (Cnd.mk k n s []).hd b ws ns = leafH k n s b ws ns := by
  rw [hd_eq]
  show (if k = 11 then _ else if k = 12 then _ else if k = 13 then _ else leafH k n s b ws ns) = _
  rw [if_neg (by omega), if_neg (by omega), if_neg (by omega)]
theorem hldB_ok {x : Cnd} {b : List ByteArray} {r : Rdn} (h : hldE x b r = 0) : hldB x b r = x.hd b r.words r.src.length := by
  unfold hldB
  rw [decide_eq_true h, Bool.true_and]
theorem clsN_skip {rs : List Rul} {b : List ByteArray} {r : Rdn} (j : Nat) (hj : j < rs.length) (h : ∀ x ∈ rs.take j, x.cnd.hd b r.words r.src.length = false) (ht : (rs[j]).cnd.hd b r.words r.src.length = true) : clsN rs b r = (rs[j]).name := by
  unfold clsN
  have : rs.find? (fun x => x.cnd.hd b r.words r.src.length) = some rs[j] := by
    rw [List.find?_eq_some_iff_append]
    refine ⟨ht, rs.take j, rs.drop (j + 1), ?_, fun a ha => by rw [h a ha]; rfl⟩
    rw [← List.drop_eq_getElem_cons hj, List.take_append_drop]
  rw [this]
theorem clsN_none {rs : List Rul} {b : List ByteArray} {r : Rdn} (h : ∀ x ∈ rs, x.cnd.hd b r.words r.src.length = false) : clsN rs b r = ⟨#[111, 116, 104, 101, 114]⟩ := by
  unfold clsN
  rw [List.find?_eq_none.2 fun x hx => by rw [h x hx]; decide]
theorem rulsF_ok : ∀ (rs : List Rul) (seen : List ByteArray), rulsF seen rs = 0 → ∀ x ∈ rs, isNm x.name = true ∧ x.name ≠ ⟨#[98, 97, 115, 101]⟩ ∧ x.name ≠ ⟨#[111, 116, 104, 101, 114]⟩ ∧ rgtE x.cnd = 0
  | [], _, _, x, hx => by cases hx
  | r :: rs, seen, h, x, hx => by
    have h' : (if isNm r.name = false ∨ r.name = ⟨#[98, 97, 115, 101]⟩ ∨ r.name = ⟨#[111, 116, 104, 101, 114]⟩ then (14 : Int) else if seen.any (fun y => decide (y = r.name)) = true then 7 else if rgtE r.cnd ≠ 0 then rgtE r.cnd else rulsF (seen ++ [r.name]) rs) = 0 := h
    by_cases h1 : isNm r.name = false ∨ r.name = ⟨#[98, 97, 115, 101]⟩ ∨ r.name = ⟨#[111, 116, 104, 101, 114]⟩
    · rw [if_pos h1] at h'; cases h'
    rw [if_neg h1] at h'
    by_cases h2 : seen.any (fun y => decide (y = r.name)) = true
    · rw [if_pos h2] at h'; cases h'
    rw [if_neg h2] at h'
    by_cases h3 : rgtE r.cnd ≠ 0
    · rw [if_pos h3] at h'; exact absurd h' h3
    rw [if_neg h3] at h'
    rcases List.mem_cons.1 hx with rfl | hx
    · refine ⟨?_, fun e => h1 (.inr (.inl e)), fun e => h1 (.inr (.inr e)), Classical.byContradiction h3⟩
      cases hn : isNm x.name with
      | true => rfl
      | false => exact absurd (.inl hn) h1
    · exact rulsF_ok rs _ h' x hx
theorem rulE_zero {rs : List Rul} (h : rulE rs = 0) : rs.length ≤ 64 ∧ rulsF [] rs = 0 ∧ (linL rs).length ≤ 65536 := by
  unfold rulE at h
  by_cases h1 : 64 < rs.length
  · rw [if_pos h1] at h; cases h
  rw [if_neg h1] at h
  by_cases h2 : rulsF [] rs ≠ 0
  · rw [if_pos h2] at h; exact absurd h h2
  rw [if_neg h2] at h
  by_cases h3 : 65536 < (linL rs).length
  · rw [if_pos h3] at h; cases h
  exact ⟨by omega, Classical.byContradiction h2, by omega⟩
theorem rulE_ok {rs : List Rul} (h : rulE rs = 0) : ∀ x ∈ rs, isNm x.name = true ∧ x.name ≠ ⟨#[98, 97, 115, 101]⟩ ∧ x.name ≠ ⟨#[111, 116, 104, 101, 114]⟩ ∧ rgtE x.cnd = 0 := rulsF_ok rs [] (rulE_zero h).2.1
end Go.Proofs.YthnlnffmmioapaaGreatDoor
