/-
  Part 21 of the proof: Ho27. No statement of the seat is proved here.
-/
import Derived.Test.YthnlnffmmioapaaDoorMHUs2720
namespace Go.Proofs.YthnlnffmmioapaaDoor
open Go.RowKit
theorem Pt.belowQ {w w' : World} {p : Value} {sz : Nat} {f : Nat → Value} (h : Pt w p sz f) (hb : Below w.heap.size w w') : Pt w' p sz f := by
  obtain ⟨b, o, h1, h2⟩ := h
  exact ⟨b, o, h1, fun j hj => (hb.cell (World.block_lt_of_cell? w _ (h2 j hj))).trans (h2 j hj)⟩
def Hld1 (x : Cnd) : Prop := ∀ (xv cv : Value) (b : List ByteArray) (r : Rdn) (w : World), Exp w x xv → QueV w b r cv → KfL w → wdsB b = true → rdgB r = true → SatV Tryd.prog 35 [xv, cv] w (.bool (x.hd b r.words r.src.length))
set_option maxRecDepth 100000 in
set_option maxHeartbeats 4000000 in
theorem holds1_sat (x : Cnd) (hx : Hld1 x) (xv p : Value) (bv wv sv : Value) (b : List ByteArray) (r : Rdn) (w : World) (hE : Exp w x xv) (hQ : QueV w b r (.agg #[bv, wv, sv])) (hp : Pt w p 3 (fun j => [bv, wv, sv].getD j undef)) (hk : KfL w) (hb : wdsB b = true) (hr : rdgB r = true) :
    SatV Tryd.prog 59 [xv, p] w (.bool (x.hd b r.words r.src.length)) := by
  have h1 := fun w1 (h : Below w.heap.size w w1) => hx xv _ b r w1 (hE.below h) (hQ.below h) (hk.below h) hb hr
  obtain ⟨pv, g, rfl, hs, _⟩ := hE.shape
  refine SatL.of 7 [3] Tryd.func59 (by kernel_rfl) (by kernel_rfl) rfl rfl rfl rfl ?_
  repeat' (first|(apply OK_seq)|(apply thenQ_n)|(apply OK_region)|(apply OKx_gl; refine OKx_ldRA rfl hp ?_)|(apply OKx_gc 35;exact rfl; refine OKx_callV (f := 35) rfl rfl rfl (fun w1 hp => h1 w1 hp.below) ?_)|(apply OKx_nilK)|(apply OK_block)|(apply blockQ_n)|(apply blockQ_s)|(apply thenQ_e)|(apply blockQ_e;exact rfl)|(apply thenQ_r)|(apply blockQ_r)|(apply OK_condT;exact rfl)|(apply OK_condF;exact rfl)|(apply OK_skip)|(apply OK_exit)|(apply OK_ret)|(apply OKx_assign;(conv=>lhs;whnf)<;>exact rfl)|(apply OKx_boxA;exact rfl;intro _)|(apply OKx_ldBA;exact rfl;(first | exact at0|exact at1|exact at2|exact at3|exact at4|exact at5|exact at6|exact at7);exact rfl)|(apply OKx_ldRA;(conv=>lhs;whnf)<;>exact rfl;(with_reducible assumption)))
  refine bodyQ_r1 (by ((conv=>lhs;whnf)<;>exact rfl)) ?_
  exact ⟨_, Ent.nil, rfl, rfl⟩
set_option maxRecDepth 100000 in
set_option maxHeartbeats 4000000 in
theorem holds2_sat (x : Cnd) (hx : Hld1 x) (xv p q : Value) (bv wv sv : Value) (b : List ByteArray) (r : Rdn) (w : World) (hE : Exp w x xv) (hQ : QueV w b r (.agg #[bv, wv, sv])) (hp : Pt w p 3 (fun j => [bv, wv, sv].getD j undef)) (hq : Pt1 w q (.func (.func 59) #[] #[p])) (hk : KfL w) (hb : wdsB b = true) (hr : rdgB r = true) :
    SatV Tryd.prog 61 [xv, q] w (.bool (!x.hd b r.words r.src.length)) := by
  have h1 := fun w1 (h : Below w.heap.size w w1) => holds1_sat x hx xv p bv wv sv b r w1 (hE.below h) (hQ.below h) (hp.belowQ h) (hk.below h) hb hr
  obtain ⟨pv, g, rfl, hs, _⟩ := hE.shape
  refine SatL.of 8 [3] Tryd.func61 (by kernel_rfl) (by kernel_rfl) rfl rfl rfl rfl ?_
  repeat' (first|(apply OK_seq)|(apply thenQ_n)|(apply OK_region)|(apply OKx_gl; refine OKx_ldR rfl hq ?_)|(apply OKx_gc 59;exact rfl; refine OKx_callB (f := 59) rfl rfl rfl (fun w1 hp => h1 w1 hp.below) ?_ ?_ <;> intro hqq)|(apply OKx_nilK)|(apply OK_block)|(apply blockQ_n)|(apply blockQ_s)|(apply thenQ_e)|(apply blockQ_e;exact rfl)|(apply thenQ_r)|(apply blockQ_r)|(apply OK_condT;exact rfl)|(apply OK_condF;exact rfl)|(apply OK_skip)|(apply OK_exit)|(apply OK_ret)|(apply OKx_assign;(conv=>lhs;whnf)<;>exact rfl)|(apply OKx_ldB;exact rfl;(first | exact at0|exact at1|exact at2|exact at3|exact at4|exact at5|exact at6|exact at7);exact rfl)|(apply OKx_ldR;(conv=>lhs;whnf)<;>exact rfl;(with_reducible assumption))|(apply OKx_notT;exact rfl)|(apply OKx_notF;exact rfl)|(apply OKx_boxA;exact rfl;intro _)|(apply OKx_ldBA;exact rfl;(first | exact at0|exact at1|exact at2|exact at3|exact at4|exact at5|exact at6|exact at7);exact rfl)|(apply OKx_ldRA;(conv=>lhs;whnf)<;>exact rfl;(with_reducible assumption)))
  all_goals
    refine bodyQ_r1 (by ((conv=>lhs;whnf)<;>exact rfl)) ?_
    exact ⟨_, Ent.nil, by rw [hqq]; rfl, rfl⟩
set_option maxRecDepth 100000 in
set_option maxHeartbeats 4000000 in
theorem holds_sat : ∀ (k : Nat) (x : Cnd), x.depth ≤ k → x.own = true → Hld1 x
  | 0, x, hk, _ => by have := depth_pos x;omega
  | k + 1, x, hk, ho => by
    intro xv cv b r w hE hQ hkf hb hr
    obtain ⟨pv, g, rfl, hs, hP, hEs⟩ := hE.shape
    have hQ0 := hQ
    obtain ⟨bv, wv, sv, rfl, hB, hW, hS⟩ := hQ
    have hon := ho
    rw [own_eq, Bool.and_eq_true, List.all_eq_true] at hon
    obtain ⟨hnd, hon⟩ := hon
    obtain ⟨nd1, nd2, _, _, _, _, _, nd7, nd8⟩ := node_iff.1 hnd
    have ih : ∀ j, (hj : j < x.parts.length) → Hld1 x.parts[j] := fun j hj => holds_sat k _ (by have := depth_in (List.getElem_mem hj);omega) (hon _ (List.getElem_mem hj))
    rw [hd_eq]
    obtain ⟨i, hi⟩ := Int.eq_ofNat_of_zero_le (show 0 ≤ x.kind by omega)
    obtain ⟨ba, bc, rfl, hbl, _⟩ := hB.at
    obtain ⟨wa, wc, rfl, hwl, _⟩ := hW.at
    obtain ⟨sa, sc, rfl, hsl, _⟩ := hS.at
    have hP1 : ∀ (w1 : World) (gc : Nat), Below w.heap.size w w1 → Pt w1 (.pointer (some ⟨gc, 0, none⟩)) 3 (fun j => [.slice ba b.length bc, .slice wa r.words.length wc, .slice sa r.src.length sc].getD j undef) → SatV Tryd.prog 60 [pv, .func (.func 59) #[] #[.pointer (some ⟨gc, 0, none⟩)]] w1 (.bool (x.parts.any (Cnd.hd b r.words r.src.length))) := fun w1 gc hb1 hp => by
      have := containsF_exp_sat pv x.parts.length g (fun j => (x.parts.getD j default).hd b r.words r.src.length) 59 #[.pointer (some ⟨gc, 0, none⟩)] w1 (hP.below hb1) (fun j hj w2 hb2 => by
        rw [show x.parts.getD j default = x.parts[j] by simp [hj]]
        exact holds1_sat x.parts[j] (ih j hj) _ _ _ _ _ b r w2 (((hEs j hj).below hb1).below hb2) ((hQ0.below hb1).below hb2) (hp.belowQ hb2) ((hkf.below hb1).below hb2) hb hr)
      rwa [anyN_some (f := Cnd.hd b r.words r.src.length) (fun j hj => by simp [hj])] at this
    have hP2 : ∀ (w1 : World) (gc gp : Nat), Below w.heap.size w w1 → Pt w1 (.pointer (some ⟨gc, 0, none⟩)) 3 (fun j => [.slice ba b.length bc, .slice wa r.words.length wc, .slice sa r.src.length sc].getD j undef) → Pt1 w1 (.pointer (some ⟨gp, 0, none⟩)) (.func (.func 59) #[] #[.pointer (some ⟨gc, 0, none⟩)]) → SatV Tryd.prog 60 [pv, .func (.func 61) #[] #[.pointer (some ⟨gp, 0, none⟩)]] w1 (.bool (!(x.parts.all (Cnd.hd b r.words r.src.length)))) := fun w1 gc gp hb1 hp hq => by
      have := containsF_exp_sat pv x.parts.length g (fun j => !(x.parts.getD j default).hd b r.words r.src.length) 61 #[.pointer (some ⟨gp, 0, none⟩)] w1 (hP.below hb1) (fun j hj w2 hb2 => by
        rw [show x.parts.getD j default = x.parts[j] by simp [hj]]
        exact holds2_sat x.parts[j] (ih j hj) _ _ _ _ _ _ b r w2 (((hEs j hj).below hb1).below hb2) ((hQ0.below hb1).below hb2) (hp.belowQ hb2) (hq.below hb2) ((hkf.below hb1).below hb2) hb hr)
      rwa [anyN_not (f := Cnd.hd b r.words r.src.length) (fun j hj => by simp [hj])] at this
    by_cases h11 : x.kind = 11
    · rw [if_pos h11]
      refine SatL.of 38 [4] Tryd.func35 (by kernel_rfl) (by kernel_rfl) rfl rfl rfl rfl ?_
      repeat' (first|(apply OK_seq)|(apply thenQ_n)|(apply OK_region)|(apply OKx_gc 60;exact rfl; refine OKx_callB (f := 60) rfl rfl rfl (fun w1 hp => hP2 w1 _ _ hp.below ⟨_, _, rfl, fun j hj => by rw [Nat.zero_add, (hp.boxAt 1 rfl).1 j]; simp [hj]⟩ ⟨_, _, rfl, (hp.boxAt 0 rfl).1 0⟩) ?_ ?_ <;> intro hqq)|(refine OK_rid 8 ?_; refine OK_quiet (id := 8) (by kernel_rfl) (by kernel_rfl) ?_)|(refine OK_rid 9 ?_; refine OK_quiet (id := 9) (by kernel_rfl) (by kernel_rfl) ?_)|(apply OKx_nilK)|(apply OK_block)|(apply blockQ_n)|(apply blockQ_s)|(apply thenQ_e)|(apply blockQ_e;exact rfl)|(apply thenQ_r)|(apply blockQ_r)|(apply OK_condT;exact rfl)|(apply OK_condF;exact rfl)|(apply OK_skip)|(apply OK_exit)|(apply OK_ret)|(apply OKx_assign;(conv=>lhs;whnf)<;>exact rfl)|(apply OKx_ldB;exact rfl;(first | exact at0|exact at1|exact at2|exact at3|exact at4|exact at5|exact at6|exact at7);exact rfl)|(apply OKx_ldR;(conv=>lhs;whnf)<;>exact rfl;(with_reducible assumption))|(apply OKx_ldI;exact rfl;(first | exact at0|exact at1|exact at2|exact at3|exact at4|exact at5|exact at6|exact at7);omega)|(apply OKx_eql;exact rfl;exact rfl;all_goals (intro _; try (exfalso;omega)))|(apply OKx_idxR2;(conv=>lhs;whnf)<;>exact rfl;(with_reducible assumption);exact rfl;omega;intro _ _)|(apply OKx_fldO;exact rfl;exact rfl)|(apply OKx_fldR;(conv=>lhs;whnf)<;>exact rfl;(with_reducible assumption); decide;intro _ _)|(apply OKx_notT;exact rfl)|(apply OKx_notF;exact rfl)|(apply OKx_boxA;exact rfl;intro _)|(apply OKx_alloc1;intro _)|(apply OKx_ldBA;exact rfl;(first | exact at0|exact at1|exact at2|exact at3|exact at4|exact at5|exact at6|exact at7);exact rfl)|(apply OKx_ldRA;(conv=>lhs;whnf)<;>exact rfl;(with_reducible assumption))|(apply OKx_stB;exact rfl;(conv=>lhs;whnf)<;>exact rfl;exact rfl;exact rfl;(first | exact at0|exact at1|exact at2|exact at3|exact at4|exact at5|exact at6|exact at7);exact rfl;exact rfl;exact rfl)|(apply OKx_func;exact rfl;exact rfl))
      all_goals (try (exfalso;omega))
      all_goals
        refine bodyQ_r1 (by ((conv=>lhs;whnf)<;>exact rfl)) ?_
        refine ⟨_, Ent.nil, bool_eq ?_, rfl⟩
        simpa using hqq.symm
    rw [if_neg h11]
    by_cases h12 : x.kind = 12
    · rw [if_pos h12]
      refine SatL.of 38 [4] Tryd.func35 (by kernel_rfl) (by kernel_rfl) rfl rfl rfl rfl ?_
      repeat' (first|(apply OK_seq)|(apply thenQ_n)|(apply OK_region)|(apply OKx_gc 60;exact rfl; refine OKx_callV (f := 60) rfl rfl rfl (fun w1 hp => hP1 w1 _ hp.below ⟨_, _, rfl, fun j hj => by rw [Nat.zero_add, (hp.boxAt 1 rfl).1 j]; simp [hj]⟩) ?_)|(refine OK_rid 8 ?_; refine OK_quiet (id := 8) (by kernel_rfl) (by kernel_rfl) ?_)|(refine OK_rid 9 ?_; refine OK_quiet (id := 9) (by kernel_rfl) (by kernel_rfl) ?_)|(apply OKx_nilK)|(apply OK_block)|(apply blockQ_n)|(apply blockQ_s)|(apply thenQ_e)|(apply blockQ_e;exact rfl)|(apply thenQ_r)|(apply blockQ_r)|(apply OK_condT;exact rfl)|(apply OK_condF;exact rfl)|(apply OK_skip)|(apply OK_exit)|(apply OK_ret)|(apply OKx_assign;(conv=>lhs;whnf)<;>exact rfl)|(apply OKx_ldB;exact rfl;(first | exact at0|exact at1|exact at2|exact at3|exact at4|exact at5|exact at6|exact at7);exact rfl)|(apply OKx_ldR;(conv=>lhs;whnf)<;>exact rfl;(with_reducible assumption))|(apply OKx_ldI;exact rfl;(first | exact at0|exact at1|exact at2|exact at3|exact at4|exact at5|exact at6|exact at7);omega)|(apply OKx_eql;exact rfl;exact rfl;all_goals (intro _; try (exfalso;omega)))|(apply OKx_idxR2;(conv=>lhs;whnf)<;>exact rfl;(with_reducible assumption);exact rfl;omega;intro _ _)|(apply OKx_fldO;exact rfl;exact rfl)|(apply OKx_fldR;(conv=>lhs;whnf)<;>exact rfl;(with_reducible assumption); decide;intro _ _)|(apply OKx_notT;exact rfl)|(apply OKx_notF;exact rfl)|(apply OKx_boxA;exact rfl;intro _)|(apply OKx_alloc1;intro _)|(apply OKx_ldBA;exact rfl;(first | exact at0|exact at1|exact at2|exact at3|exact at4|exact at5|exact at6|exact at7);exact rfl)|(apply OKx_ldRA;(conv=>lhs;whnf)<;>exact rfl;(with_reducible assumption))|(apply OKx_stB;exact rfl;(conv=>lhs;whnf)<;>exact rfl;exact rfl;exact rfl;(first | exact at0|exact at1|exact at2|exact at3|exact at4|exact at5|exact at6|exact at7);exact rfl;exact rfl;exact rfl)|(apply OKx_func;exact rfl;exact rfl))
      all_goals (try (exfalso;omega))
      all_goals
        refine bodyQ_r1 (by ((conv=>lhs;whnf)<;>exact rfl)) ?_
        exact ⟨_, Ent.nil, rfl, rfl⟩
    rw [if_neg h12]
    by_cases h13 : x.kind = 13
    · rw [if_pos h13]
      have hpl : x.parts.length = 1 := by
        rw [h13] at nd7 nd8
        have e1 : lstK 13 = 1 := rfl
        have e2 : mstK 13 = 1 := rfl
        have := nd8 (by omega)
        omega
      have hx0 := fun (w1 : World) (gc : Nat) (hb1 : Below w.heap.size w w1) hp => holds1_sat x.parts[0] (ih 0 (by omega)) _ (.pointer (some ⟨gc, 0, none⟩)) _ _ _ b r w1 ((hEs 0 (by omega)).below hb1) (hQ0.below hb1) hp (hkf.below hb1) hb hr
      have hhd : (x.parts.map (Cnd.hd b r.words r.src.length)).headD false = (x.parts[0]'(by omega)).hd b r.words r.src.length := by
        obtain ⟨y, hy⟩ := List.length_eq_one_iff.1 hpl
        simp [hy]
      rw [hhd]
      refine SatL.of 38 [4] Tryd.func35 (by kernel_rfl) (by kernel_rfl) rfl rfl rfl rfl ?_
      repeat' (first|(apply OK_seq)|(apply thenQ_n)|(apply OK_region)|(apply OKx_gi; refine OKx_idxR2 (i := 0) rfl hP rfl (by omega) ?_;intro _ _)|(apply OKx_gc 59;exact rfl; refine OKx_callB (f := 59) rfl rfl rfl (fun w1 hp => hx0 w1 _ hp.below ⟨_, _, rfl, fun j hj => by rw [Nat.zero_add, (hp.boxAt 1 rfl).1 j]; simp [hj]⟩) ?_ ?_ <;> intro hqq)|(refine OK_rid 8 ?_; refine OK_quiet (id := 8) (by kernel_rfl) (by kernel_rfl) ?_)|(refine OK_rid 9 ?_; refine OK_quiet (id := 9) (by kernel_rfl) (by kernel_rfl) ?_)|(apply OKx_nilK)|(apply OK_block)|(apply blockQ_n)|(apply blockQ_s)|(apply thenQ_e)|(apply blockQ_e;exact rfl)|(apply thenQ_r)|(apply blockQ_r)|(apply OK_condT;exact rfl)|(apply OK_condF;exact rfl)|(apply OK_skip)|(apply OK_exit)|(apply OK_ret)|(apply OKx_assign;(conv=>lhs;whnf)<;>exact rfl)|(apply OKx_ldB;exact rfl;(first | exact at0|exact at1|exact at2|exact at3|exact at4|exact at5|exact at6|exact at7);exact rfl)|(apply OKx_ldR;(conv=>lhs;whnf)<;>exact rfl;(with_reducible assumption))|(apply OKx_ldI;exact rfl;(first | exact at0|exact at1|exact at2|exact at3|exact at4|exact at5|exact at6|exact at7);omega)|(apply OKx_eql;exact rfl;exact rfl;all_goals (intro _; try (exfalso;omega)))|(apply OKx_idxR2;(conv=>lhs;whnf)<;>exact rfl;(with_reducible assumption);exact rfl;omega;intro _ _)|(apply OKx_fldO;exact rfl;exact rfl)|(apply OKx_fldR;(conv=>lhs;whnf)<;>exact rfl;(with_reducible assumption); decide;intro _ _)|(apply OKx_notT;exact rfl)|(apply OKx_notF;exact rfl)|(apply OKx_boxA;exact rfl;intro _)|(apply OKx_alloc1;intro _)|(apply OKx_ldBA;exact rfl;(first | exact at0|exact at1|exact at2|exact at3|exact at4|exact at5|exact at6|exact at7);exact rfl)|(apply OKx_ldRA;(conv=>lhs;whnf)<;>exact rfl;(with_reducible assumption))|(apply OKx_stB;exact rfl;(conv=>lhs;whnf)<;>exact rfl;exact rfl;exact rfl;(first | exact at0|exact at1|exact at2|exact at3|exact at4|exact at5|exact at6|exact at7);exact rfl;exact rfl;exact rfl)|(apply OKx_func;exact rfl;exact rfl))
      all_goals (try (exfalso;omega))
      all_goals
        refine bodyQ_r1 (by ((conv=>lhs;whnf)<;>exact rfl)) ?_
        exact ⟨_, Ent.nil, by rw [hqq]; rfl, rfl⟩
    rw [if_neg h13]
    obtain ⟨f, hf1, hf2⟩ : ∃ f, kfC i = .func (.func f) #[] #[] ∧ KndS f i := by
      have hi10 : i < 11 := by omega
      have hi1 : 0 < i := by omega
      clear hi
      match i, hi10, hi1 with
      | 1, _, _ => exact ⟨_, rfl, kind1_sat⟩
      | 2, _, _ => exact ⟨_, rfl, kind2_sat⟩
      | 3, _, _ => exact ⟨_, rfl, kind3_sat⟩
      | 4, _, _ => exact ⟨_, rfl, kind4_sat⟩
      | 5, _, _ => exact ⟨_, rfl, kind5_sat⟩
      | 6, _, _ => exact ⟨_, rfl, kind6_sat⟩
      | 7, _, _ => exact ⟨_, rfl, kind7_sat⟩
      | 8, _, _ => exact ⟨_, rfl, kind8_sat⟩
      | 9, _, _ => exact ⟨_, rfl, kind9_sat⟩
      | 10, _, _ => exact ⟨_, rfl, kind10_sat⟩
    have hi' : x.kind.toNat = i := by omega
    have hpt : Pt1 w (.pointer (some ⟨0, i, none⟩)) (.func (.func f) #[] #[]) := ⟨_, _, rfl, by rw [← hf1]; exact hkf i (by omega) (by omega)⟩
    have hcall := fun w1 (h : Below w.heap.size w w1) => hf2 _ _ x b r w1 (hE.below h) (hQ0.below h) hb hr
    rw [← hi] at hcall
    refine SatL.of 38 [4] Tryd.func35 (by kernel_rfl) (by kernel_rfl) rfl rfl rfl rfl ?_
    repeat' (first|(apply OK_seq)|(apply thenQ_n)|(apply OK_region)|(apply OKx_gi; refine OKx_idxAz Tryd.underlying96 rfl rfl (by omega) (by omega) ?_; rw [hi', Nat.zero_add])|(apply OKx_gl; refine OKx_ldR rfl hpt ?_)|(refine OKx_callV (f := f) rfl rfl rfl (fun w1 hp => hcall w1 hp.below) ?_)|(refine OK_rid 8 ?_; refine OK_quiet (id := 8) (by kernel_rfl) (by kernel_rfl) ?_)|(refine OK_rid 9 ?_; refine OK_quiet (id := 9) (by kernel_rfl) (by kernel_rfl) ?_)|(apply OKx_nilK)|(apply OK_block)|(apply blockQ_n)|(apply blockQ_s)|(apply thenQ_e)|(apply blockQ_e;exact rfl)|(apply thenQ_r)|(apply blockQ_r)|(apply OK_condT;exact rfl)|(apply OK_condF;exact rfl)|(apply OK_skip)|(apply OK_exit)|(apply OK_ret)|(apply OKx_assign;(conv=>lhs;whnf)<;>exact rfl)|(apply OKx_ldB;exact rfl;(first | exact at0|exact at1|exact at2|exact at3|exact at4|exact at5|exact at6|exact at7);exact rfl)|(apply OKx_ldR;(conv=>lhs;whnf)<;>exact rfl;(with_reducible assumption))|(apply OKx_ldI;exact rfl;(first | exact at0|exact at1|exact at2|exact at3|exact at4|exact at5|exact at6|exact at7);omega)|(apply OKx_eql;exact rfl;exact rfl;all_goals (intro _; try (exfalso;omega)))|(apply OKx_idxR2;(conv=>lhs;whnf)<;>exact rfl;(with_reducible assumption);exact rfl;omega;intro _ _)|(apply OKx_fldO;exact rfl;exact rfl)|(apply OKx_fldR;(conv=>lhs;whnf)<;>exact rfl;(with_reducible assumption); decide;intro _ _)|(apply OKx_notT;exact rfl)|(apply OKx_notF;exact rfl)|(apply OKx_boxA;exact rfl;intro _)|(apply OKx_alloc1;intro _)|(apply OKx_ldBA;exact rfl;(first | exact at0|exact at1|exact at2|exact at3|exact at4|exact at5|exact at6|exact at7);exact rfl)|(apply OKx_ldRA;(conv=>lhs;whnf)<;>exact rfl;(with_reducible assumption))|(apply OKx_stB;exact rfl;(conv=>lhs;whnf)<;>exact rfl;exact rfl;exact rfl;(first | exact at0|exact at1|exact at2|exact at3|exact at4|exact at5|exact at6|exact at7);exact rfl;exact rfl;exact rfl)|(apply OKx_func;exact rfl;exact rfl))
    all_goals (try (exfalso;omega))
    all_goals
      refine bodyQ_r1 (by ((conv=>lhs;whnf)<;>exact rfl)) ?_
      exact ⟨_, Ent.nil, rfl, rfl⟩
theorem que_build (a1 a2 a3 : Option Addr) (n1 n2 n3 c1 c2 c3 : Nat) : Instr.fill ([(0, 1), (1, 2)].toArray[·]?) #[.slice none 0 0, .slice none 0 0, .slice none 0 0] [(0, .slice a1 n1 c1), (1, .agg #[.slice a2 n2 c2, .slice a3 n3 c3])] = some #[.slice a1 n1 c1, .slice a2 n2 c2, .slice a3 n3 c3] := rfl
set_option maxRecDepth 100000 in
set_option maxHeartbeats 4000000 in
theorem Holds_sat (xv bv rv : Value) (x : Cnd) (b : List ByteArray) (r : Rdn) (w : World) (hE : Exp w x xv) (hB : Strs w bv b) (hR : RdnV w r rv) (hkd : KdL w) (hkf : KfL w) : SatV Tryd.prog 13 [xv, bv, rv] w (.tuple #[.bool (hldB x b r), .int .i64 (hldE x b r)]) := by
  have hC := fun w1 (h : Below w.heap.size w w1) => condition_sat xv x w1 (hE.below h) (hkd.below h)
  have hW := fun w1 (h : Below w.heap.size w w1) => words_sat bv b w1 (hB.below h)
  have hRd := fun w1 (h : Below w.heap.size w w1) => reading_sat rv r w1 (hR.below h)
  have hE0 := hE
  obtain ⟨pv, g, rfl, hs, _⟩ := hE.shape
  obtain ⟨ba, bc, rfl, hbl, _⟩ := hB.at
  obtain ⟨wv, sv, rfl, hWv, hSv⟩ := hR
  obtain ⟨wa, wc, rfl, hwl, _⟩ := hWv.at
  obtain ⟨sa, sc, rfl, hsl, _⟩ := hSv.at
  by_cases h0 : rgtE x = 0 ∧ wdsB b = true ∧ rdgB r = true
  · have hH := fun w1 (h : Below w.heap.size w w1) => holds_sat _ x (Nat.le_refl _) (rgtE_zero h0.1).2 _ (.agg #[.slice ba b.length bc, .slice wa r.words.length wc, .slice sa r.src.length sc]) b r w1 (hE0.below h) ⟨_, _, _, rfl, hB.below h, hWv.below h, hSv.below h⟩ (hkf.below h) h0.2.1 h0.2.2
    unfold hldB hldE
    rw [if_pos h0, decide_eq_true rfl, Bool.true_and]
    rw [h0.1, decide_eq_true rfl] at hC
    rw [h0.2.1] at hW
    rw [h0.2.2] at hRd
    refine SatL.of 26 [6, 7] Tryd.func13 (by kernel_rfl) (by kernel_rfl) rfl rfl rfl rfl ?_
    repeat' (first|(apply OK_seq)|(apply thenQ_n)|(apply OK_region)|(apply OKx_gc 32;exact rfl; refine OKx_callV (f := 32) rfl rfl rfl (fun w1 hp => hC w1 hp.below) ?_)|(apply OKx_gc 33;exact rfl; refine OKx_callV (f := 33) rfl rfl rfl (fun w1 hp => hW w1 hp.below) ?_)|(apply OKx_gc 34;exact rfl; refine OKx_callV (f := 34) rfl rfl rfl (fun w1 hp => hRd w1 hp.below) ?_)|(apply OKx_gc 35;exact rfl; refine OKx_callV (f := 35) rfl rfl rfl (fun w1 hp => hH w1 hp.below) ?_)|(refine OKx_buildG [(0, .slice ba b.length bc), (1, .agg #[.slice wa r.words.length wc, .slice sa r.src.length sc])] #[.slice ba b.length bc, .slice wa r.words.length wc, .slice sa r.src.length sc] rfl (que_build _ _ _ _ _ _ _ _ _) ?_)|(apply OKx_nilK)|(apply OK_block)|(apply blockQ_n)|(apply blockQ_s)|(apply thenQ_e)|(apply blockQ_e;exact rfl)|(apply thenQ_r)|(apply blockQ_r)|(apply OK_condT;exact rfl)|(apply OK_condF;exact rfl)|(apply OK_skip)|(apply OK_exit)|(apply OK_ret)|(apply OKx_move;(conv=>lhs;whnf)<;>exact rfl)|(apply OKx_assign;(conv=>lhs;whnf)<;>exact rfl)|(apply OKx_pickT;exact rfl;(conv=>lhs;whnf)<;>exact rfl)|(apply OKx_pickF;exact rfl;(conv=>lhs;whnf)<;>exact rfl)|(apply OKx_guardT;exact rfl;exact rfl)|(apply OKx_guardF;exact rfl;exact rfl)|(apply OKx_guardU;exact rfl;exact rfl)|(apply OKx_notT;exact rfl)|(apply OKx_notF;exact rfl)|(apply OKx_boxA;exact rfl;intro _)|(apply OKx_ldBA;exact rfl;(first | exact at0|exact at1|exact at2|exact at3|exact at4|exact at5|exact at6|exact at7);exact rfl)|(apply OKx_ldRA;(conv=>lhs;whnf)<;>exact rfl;(with_reducible assumption))|(apply OKx_build2;(conv=>lhs;whnf)<;>exact rfl;(conv=>lhs;whnf)<;>exact rfl;exact rfl;exact rfl))
    refine bodyQ_r2 (by ((conv=>lhs;whnf)<;>exact rfl)) (by ((conv=>lhs;whnf)<;>exact rfl)) ?_
    exact ⟨_, Ent.nil, rfl, rfl⟩
  · unfold hldB hldE
    rw [if_neg h0, decide_eq_false (by decide), Bool.false_and]
    refine SatL.of 26 [6, 7] Tryd.func13 (by kernel_rfl) (by kernel_rfl) rfl rfl rfl rfl ?_
    repeat' (first|(apply OK_seq)|(apply thenQ_n)|(apply OK_region)|(apply OKx_gc 32;exact rfl; refine OKx_callB (f := 32) rfl rfl rfl (fun w1 hp => hC w1 hp.below) ?_ ?_ <;> intro q1)|(apply OKx_gc 33;exact rfl; refine OKx_callB (f := 33) rfl rfl rfl (fun w1 hp => hW w1 hp.below) ?_ ?_ <;> intro q2)|(apply OKx_gc 34;exact rfl; refine OKx_callB (f := 34) rfl rfl rfl (fun w1 hp => hRd w1 hp.below) ?_ ?_ <;> intro q3; (try exact absurd ⟨of_decide_eq_true q1, q2, q3⟩ h0))|(apply OKx_nilK)|(apply OK_block)|(apply blockQ_n)|(apply blockQ_s)|(apply thenQ_e)|(apply blockQ_e;exact rfl)|(apply thenQ_r)|(apply blockQ_r)|(apply OK_condT;exact rfl)|(apply OK_condF;exact rfl)|(apply OK_skip)|(apply OK_exit)|(apply OK_ret)|(apply OKx_move;(conv=>lhs;whnf)<;>exact rfl)|(apply OKx_assign;(conv=>lhs;whnf)<;>exact rfl)|(apply OKx_pickT;exact rfl;(conv=>lhs;whnf)<;>exact rfl)|(apply OKx_pickF;exact rfl;(conv=>lhs;whnf)<;>exact rfl)|(apply OKx_guardT;exact rfl;exact rfl)|(apply OKx_guardF;exact rfl;exact rfl)|(apply OKx_guardU;exact rfl;exact rfl)|(apply OKx_notT;exact rfl)|(apply OKx_notF;exact rfl)|(apply OKx_boxA;exact rfl;intro _)|(apply OKx_ldBA;exact rfl;(first | exact at0|exact at1|exact at2|exact at3|exact at4|exact at5|exact at6|exact at7);exact rfl)|(apply OKx_ldRA;(conv=>lhs;whnf)<;>exact rfl;(with_reducible assumption))|(apply OKx_build2;(conv=>lhs;whnf)<;>exact rfl;(conv=>lhs;whnf)<;>exact rfl;exact rfl;exact rfl))
    all_goals
      refine bodyQ_r2 (by ((conv=>lhs;whnf)<;>exact rfl)) (by ((conv=>lhs;whnf)<;>exact rfl)) ?_
      exact ⟨_, Ent.nil, rfl, rfl⟩
end Go.Proofs.YthnlnffmmioapaaDoor
