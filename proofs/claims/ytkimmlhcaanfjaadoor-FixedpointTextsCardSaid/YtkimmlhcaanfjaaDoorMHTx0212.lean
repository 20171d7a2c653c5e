/-
  Part 12 of the proof: La02, Re02, Pt02, Rp02, Rq02. No statement of the seat is proved here.
-/
import Derived.Test.YtkimmlhcaanfjaaDoorMHTx0211
namespace Go.Proofs.YtkimmlhcaanfjaaDoor
open Go.RowKit
theorem exParse : prsR [49, 50, 46, 53, 112, 116] = (12500, 0) := by decide +kernel
theorem exPrint : prtR (-250) = ([45, 48, 46, 50, 53, 112, 116], 0) := by
  have e1 : Lib.itoa 0 = [48] := by
    have := itoa_pos 0
    rw [dec_small (by decide)] at this
    exact this
  have e2 : (Lib.itoa (1000 + 250)).drop 1 = [50, 53, 48] := by
    have := itoa_pos (1000 + 250)
    rw [show (1000 + 250 : Int) = ((1000 + 250 : Nat) : Int) from rfl, this, dec_four 250 (by decide)]
    rfl
  have h1 : prtL (-250) = ((if (-250 : Int) < 0 then [45] else []) ++ Lib.itoa (absI (-250) / 1000)) ++ prtF (absI (-250) % 1000) ++ [112, 116] := rfl
  have h2 : absI (-250) = 250 := by decide
  have h3 : prtF 250 = 46 :: Lib.trimRightB ((Lib.itoa (1000 + 250)).drop 1) 48 := if_pos (by decide)
  have h4 : (250 : Int) / 1000 = 0 := by decide
  have h5 : (250 : Int) % 1000 = 250 := by decide
  unfold prtR
  rw [if_neg (by decide), h1, h2, h4, h5, h3, e1, e2]
  rfl
theorem exScale : sclR 1000 2 3 = (667, 0) := by decide +kernel
theorem exDistE : dstE (-100) [1, 1, 1] = 0 := by decide +kernel
theorem exDist : dstL (-100) (sm [1, 1, 1]) [1, 1, 1] = [-34, -33, -33] := by decide +kernel
theorem exSum : sumR [1500, -200] = (1300, 0) := by decide +kernel
theorem exBad1 : badR 1000 2000 = 12 := by decide +kernel
theorem exBad2 : badR (-2000) 1000 = 800 := by decide +kernel
set_option maxRecDepth 100000 in
set_option maxHeartbeats 4000000 in
theorem awake02_sat (w : World) (hm : MxL w) (ht : TbL w) : SatV Tryd.prog 10 [] w (.bool true) := by
  have cP := fun w1 (hb : Below w.heap.size w w1) => Parse_sat [49, 50, 46, 53, 112, 116] w1 (hm.below hb)
  have cQ := fun w1 (hb : Below w.heap.size w w1) => Print_sat (-250) w1 (ht.below hb) (by decide) (by decide)
  have cS := fun w1 => Scale_sat 1000 2 3 w1 (by decide)
  have cB1 := fun w1 => Badness_sat 1000 2000 w1 (by decide) (by decide)
  have cB2 := fun w1 => Badness_sat (-2000) 1000 w1 (by decide) (by decide)
  rw [exParse] at cP
  rw [exPrint] at cQ
  rw [exScale] at cS
  rw [exBad1] at cB1
  rw [exBad2] at cB2
  refine SatL.of 73 [0] Tryd.func10 (by kernel_rfl) (by kernel_rfl) rfl rfl rfl rfl ?_
  repeat' (first|(apply OK_seq)|(apply thenQ_n)|(apply OK_region)|(apply OKx_gc 11;exact rfl; refine OKx_callV (f := 11) rfl rfl rfl (fun w1 hp => cP w1 hp.below) ?_)|(apply OKx_gc 13;exact rfl; refine OKx_callV (f := 13) rfl rfl rfl (fun w1 hp => cQ w1 hp.below) ?_)|(apply OKx_gc 20;exact rfl; refine OKx_callV (f := 20) rfl rfl rfl (fun w1 hp => cS w1) ?_)|(apply OKx_gc 22;exact rfl; refine OKx_call (f := 22) rfl rfl (fun w1 hp => Distribute_sat _ (-100) [1, 1, 1] w1 (hp.ints 0 rfl (by decide))) ?_; rintro _ _ (⟨h0, _⟩ | ⟨_, na, nc, rfl, rfl⟩) <;> first | exact absurd exDistE h0 | (rw [exDist]; rw [List.cons_append, List.nil_append]))|(apply OKx_gc 18;exact rfl; refine OKx_callV (f := 18) (v := .tuple #[.int .i64 1300, .int .i64 0]) rfl rfl rfl (fun w1 hp => by have := Sum_sat _ [1500, -200] w1 (hp.ints 0 rfl (by decide)); rwa [exSum] at this) ?_)|(apply OKx_gn; apply OKx_seql;exact rfl;exact rfl; all_goals (intro hs; first | (exfalso; exact hs rfl) | skip))|(apply OKx_gb; refine OKx_max5 (r := 0) rfl rfl rfl rfl rfl (by decide) ?_)|(apply OKx_gc 24;exact rfl; refine OKx_callV (f := 24) (v := .bool true) rfl rfl rfl (fun w1 hp => equalT_sat _ _ [-34, -33, -33] [-34, -33, -33] w1 (hp.ints 2 rfl (by decide)) (hp.ints 0 rfl (by decide)) rfl) ?_)|(apply OKx_gc 25;exact rfl; refine OKx_callV (f := 25) rfl rfl rfl (fun w1 hp => cB1 w1) ?_)|(apply OKx_gc 25;exact rfl; refine OKx_callV (f := 25) rfl rfl rfl (fun w1 hp => cB2 w1) ?_)|(apply OKx_gc 15;exact rfl; refine OKx_callV (f := 15) (v := .int .i64 2) rfl rfl rfl (fun w1 hp => chk_sat 2147483648 w1) ?_)|(apply OKx_nilK)|(apply OK_block)|(apply blockQ_n)|(apply blockQ_s)|(apply thenQ_e)|(apply blockQ_e;exact rfl)|(apply thenQ_r)|(apply blockQ_r)|(apply OK_condT;exact rfl)|(apply OK_condF;exact rfl)|(apply OK_skip)|(apply OK_exit)|(apply OK_ret)|(apply OKx_move;(conv=>lhs;whnf)<;>exact rfl)|(apply OKx_assign;(conv=>lhs;whnf)<;>exact rfl)|(apply OKx_eql;exact rfl;exact rfl;all_goals (intro _; try (exfalso;omega)))|(apply OKx_seql;exact rfl;exact rfl; all_goals intro _)|(apply OKx_max;exact rfl;exact rfl)|(apply OKx_pickT;exact rfl;(conv=>lhs;whnf)<;>exact rfl)|(apply OKx_pickF;exact rfl;(conv=>lhs;whnf)<;>exact rfl)|(apply OKx_guardT;exact rfl;exact rfl)|(apply OKx_guardF;exact rfl;exact rfl)|(apply OKx_guardU;exact rfl;exact rfl)|(apply OKx_extract;exact rfl;(conv=>lhs;whnf)<;>exact rfl)|(apply OKx_slit3;(conv=>lhs;whnf)<;>exact rfl;(conv=>lhs;whnf)<;>exact rfl;(conv=>lhs;whnf)<;>exact rfl;exact rfl;exact rfl;exact rfl;intro _)|(apply OKx_slit2;(conv=>lhs;whnf)<;>exact rfl;(conv=>lhs;whnf)<;>exact rfl;exact rfl;exact rfl;intro _))
  refine bodyQ_r1 (by ((conv=>lhs;whnf)<;>exact rfl)) ?_
  exact ⟨_, Ent.nil, rfl, rfl⟩
end Go.Proofs.YtkimmlhcaanfjaaDoor
namespace Go.Proofs.YtkimmlhcaanfjaaDoor
open Go.RowKit
set_option maxRecDepth 100000 in
set_option maxHeartbeats 4000000 in
theorem rchk_sat (n : Int) (w : World) : SatV Tryd.prog 16 [.int .i64 n] w (.int .i64 (chk2 n)) := by
  refine SatL.of 9 [2] Tryd.func16 (by kernel_rfl) (by kernel_rfl) rfl rfl rfl rfl ?_
  repeat' (first|(apply OK_seq)|(apply thenQ_n)|(apply OK_region)|(apply OKx_nilK)|(apply OK_block)|(apply blockQ_n)|(apply blockQ_s)|(apply thenQ_e)|(apply blockQ_e;exact rfl)|(apply thenQ_r)|(apply blockQ_r)|(apply OK_condT;exact rfl)|(apply OK_condF;exact rfl)|(apply OK_skip)|(apply OK_exit)|(apply OK_ret)|(apply OKx_move;(conv=>lhs;whnf)<;>exact rfl)|(apply OKx_assign;(conv=>lhs;whnf)<;>exact rfl)|(apply OKx_lss;exact rfl;exact rfl;all_goals (intro _; try (exfalso;omega)))|(apply OKx_gtr;exact rfl;exact rfl;all_goals (intro _; try (exfalso;omega)))|(apply OKx_pickT;exact rfl;(conv=>lhs;whnf)<;>exact rfl)|(apply OKx_pickF;exact rfl;(conv=>lhs;whnf)<;>exact rfl)|(apply OKx_guardT;exact rfl;exact rfl)|(apply OKx_guardF;exact rfl;exact rfl)|(apply OKx_guardU;exact rfl;exact rfl))
  all_goals
    refine bodyQ_r1 (by ((conv=>lhs;whnf)<;>exact rfl)) ?_
    exact ⟨_, Ent.nil, int_eq (by unfold chk2; split <;> omega), rfl⟩
end Go.Proofs.YtkimmlhcaanfjaaDoor
namespace Go.Proofs.YtkimmlhcaanfjaaDoor
open Go.RowKit Go.Lib
def refBad (part : List UInt8) : Prop := part ≠ [] ∧ (part.getD 0 0 ≠ 46 ∨ part.length < 2 ∨ 4 < part.length ∨ part.getD (part.length - 1) 0 = 48 ∨ part.tail.all isDg = false)
instance (part : List UInt8) : Decidable (refBad part) := by unfold refBad; infer_instance
def refRest (s : List UInt8) : List UInt8 := if (s.take (s.length - 2)).getD 0 0 = 45 then (s.take (s.length - 2)).drop 1 else s.take (s.length - 2)
def refNeg (s : List UInt8) : Bool := decide ((s.take (s.length - 2)).getD 0 0 = 45)
def refC (r : List UInt8) (neg : Bool) : Int × Int :=
  if (dgs r).length = 0 ∨ (1 < (dgs r).length ∧ r.getD 0 0 = 48) then (0, 3) else
  if refBad (r.drop (dgs r).length) then (0, 3) else finR neg (min (valD (dgs r)) 2147483648 * 1000 + dgsF (r.drop (dgs r).length).tail)
def refR (s : List UInt8) : Int × Int :=
  if 65536 < s.length then (0, 4) else if s.length < 3 ∨ s.drop (s.length - 2) ≠ [112, 116] then (0, 3) else refC (refRest s) (refNeg s)
theorem headD_app (D t : List UInt8) (h : 1 ≤ D.length) : (D ++ t).getD 0 0 = D.getD 0 0 := by
  cases D with
  | nil => simp at h
  | cons a l => rfl
theorem refC_shp {neg : Bool} {D fr : List UInt8} {s : List UInt8} (h : Shp s neg D fr) : refC (D ++ fr) neg = finR neg (valP D fr) := by
  have hd : dgs (D ++ fr) = D := dgs_app D fr h.dig fun b hb => by
    rcases h.frac with rfl | ⟨F, rfl, _⟩
    · simp at hb
    · simp at hb; subst hb; decide
  have h1 := h.one
  have hz : ¬ ((D.length = 0) ∨ (1 < D.length ∧ (D ++ fr).getD 0 0 = 48)) := by
    rw [headD_app D fr h1]
    rintro (hx | ⟨hx, hy⟩)
    · omega
    · exact h.zero hx hy
  have hv := valD_nonneg D h.dig
  obtain ⟨f0, f1⟩ := frac_rng h.frac
  unfold refC
  rw [hd, if_neg hz, List.drop_left, if_neg]
  · exact fin_cap neg (valD D) (dgsF fr.tail) 2147483648 hv f0 f1 (by omega)
  · rintro ⟨hne, hx⟩
    rcases h.frac with rfl | ⟨F, rfl, g1, g2, g3, g4⟩
    · exact hne rfl
    · have e : (46 :: F).getD ((46 :: F).length - 1) 0 = F.getD (F.length - 1) 0 := by
        cases F with
        | nil => simp at g2
        | cons a l => rfl
      rw [e] at hx
      rcases hx with hx | hx | hx | hx | hx
      · exact hx rfl
      · rw [List.length_cons] at hx;omega
      · rw [List.length_cons] at hx;omega
      · exact g4 hx
      · have : (46 :: F).tail.all isDg = true := List.all_eq_true.2 g1
        rw [this] at hx; cases hx
theorem refR_shp {neg : Bool} {D fr : List UInt8} {s : List UInt8} (h : Shp s neg D fr) (hl : s.length ≤ 65536) : refR s = finR neg (valP D fr) := by
  have h1 := h.one
  have e : s = ((if neg = true then [45] else []) ++ (D ++ fr)) ++ [112, 116] := by rw [h.eq]; simp only [List.append_assoc]
  have hlen : s.length = ((if neg = true then [45] else []) ++ (D ++ fr)).length + 2 := by
    have := congrArg List.length e
    rw [List.length_append] at this
    exact this
  have ht : s.take (s.length - 2) = (if neg = true then [45] else []) ++ (D ++ fr) := by
    rw [hlen, Nat.add_sub_cancel]
    conv => lhs; rw [e]
    exact List.take_left
  have hdr : s.drop (s.length - 2) = [112, 116] := by
    rw [hlen, Nat.add_sub_cancel]
    conv => lhs; rw [e]
    exact List.drop_left
  have hne : D.getD 0 0 ≠ 45 := by
    cases hDD : D with
    | nil => rw [hDD] at h1; simp at h1
    | cons a l =>
      intro hx
      exact dig_no (h.dig a (by rw [hDD]; exact List.mem_cons_self)) 45 (by decide) hx
  have h3 : 3 ≤ s.length := by
    rw [hlen, List.length_append, List.length_append];omega
  have hneg : refNeg s = neg := by
    unfold refNeg
    rw [ht]
    cases neg with
    | true => rfl
    | false =>
      simp only [Bool.false_eq_true, if_false, List.nil_append]
      rw [headD_app D fr h1]
      exact decide_eq_false hne
  have hrest : refRest s = D ++ fr := by
    unfold refRest
    rw [ht]
    cases neg with
    | true => rfl
    | false =>
      simp only [Bool.false_eq_true, if_false, List.nil_append]
      rw [headD_app D fr h1, if_neg hne]
  unfold refR
  rw [if_neg (by omega), if_neg (by rw [hdr]; rintro (hx | hx); · omega
                                    · exact hx rfl), hneg, hrest]
  exact refC_shp h
theorem getD_last (a : UInt8) (F : List UInt8) (h : 1 ≤ F.length) : (a :: F).getD ((a :: F).length - 1) 0 = F.getD (F.length - 1) 0 := by
  cases F with
  | nil => simp at h
  | cons b l => rfl
theorem shp_ref (s : List UInt8) (hl : s.length ≤ 65536) : (∃ neg D fr, Shp s neg D fr) ∨ refR s = (0, 3) := by
  unfold refR
  rw [if_neg (by omega)]
  by_cases h3 : s.length < 3 ∨ s.drop (s.length - 2) ≠ [112, 116]
  · right; rw [if_pos h3]
  have hdr : s.drop (s.length - 2) = [112, 116] := by
    by_cases hx : s.drop (s.length - 2) = [112, 116]
    · exact hx
    · exact absurd (Or.inr hx) h3
  have h3' : 3 ≤ s.length := by
    by_cases hx : s.length < 3
    · exact absurd (Or.inl hx) h3
    · omega
  rw [if_neg h3]
  have hs : s = s.take (s.length - 2) ++ [112, 116] := by rw [← hdr, List.take_append_drop]
  have hs1 : s.take (s.length - 2) = (if refNeg s = true then [45] else []) ++ refRest s := by
    unfold refNeg refRest
    by_cases hx : (s.take (s.length - 2)).getD 0 0 = 45
    · rw [if_pos hx, decide_eq_true hx, if_pos rfl]
      cases ht : s.take (s.length - 2) with
      | nil => rw [ht] at hx; simp at hx
      | cons a l =>
        rw [ht] at hx
        have : a = 45 := hx
        subst this; rfl
    · rw [if_neg hx, decide_eq_false hx]; rfl
  unfold refC
  by_cases hg : (dgs (refRest s)).length = 0 ∨ (1 < (dgs (refRest s)).length ∧ (refRest s).getD 0 0 = 48)
  · right; rw [if_pos hg]
  rw [if_neg hg]
  by_cases hb : refBad ((refRest s).drop (dgs (refRest s)).length)
  · right; rw [if_pos hb]
  left
  obtain ⟨r, er, _⟩ := dgs_split (refRest s)
  have hdg := all_takeWhile (refRest s)
  generalize hD : dgs (refRest s) = D at *
  have hrd : (refRest s).drop D.length = r := by
    conv => lhs; rw [er]
    exact List.drop_left
  rw [hrd] at hb
  have hD1 : 1 ≤ D.length := by
    by_cases hx : D.length = 0
    · exact absurd (Or.inl hx) hg
    · omega
  have hh : (refRest s).getD 0 0 = D.getD 0 0 := by
    conv => lhs; rw [er]
    exact headD_app D r hD1
  rw [hh] at hg
  refine ⟨refNeg s, D, r, ?_, hdg, hD1, fun hx hy => hg (Or.inr ⟨hx, hy⟩), ?_⟩
  · conv => lhs; rw [hs, hs1, er]
    simp only [List.append_assoc]
  · cases r with
    | nil => exact Or.inl rfl
    | cons a F =>
      right
      have hb' : ¬ (a ≠ 46 ∨ (a :: F).length < 2 ∨ 4 < (a :: F).length ∨ (a :: F).getD ((a :: F).length - 1) 0 = 48 ∨ F.all isDg = false) := fun hx => hb ⟨by simp, hx⟩
      have h46 : a = 46 := by
        by_cases hx : a = 46
        · exact hx
        · exact absurd (Or.inl hx) hb'
      have hl2 : 1 ≤ F.length ∧ F.length ≤ 3 := by
        rw [List.length_cons] at hb'
        constructor
        · by_cases hx : F.length + 1 < 2
          · exact absurd (Or.inr (Or.inl hx)) hb'
          · omega
        · by_cases hx : 4 < F.length + 1
          · exact absurd (Or.inr (Or.inr (Or.inl hx))) hb'
          · omega
      subst h46
      refine ⟨F, rfl, ?_, hl2.1, hl2.2, fun hx => hb' (Or.inr (Or.inr (Or.inr (Or.inl (by rw [getD_last _ _ hl2.1]; exact hx)))))⟩
      have hall : F.all isDg = true := by
        cases hx : F.all isDg with
        | true => rfl
        | false => exact absurd (Or.inr (Or.inr (Or.inr (Or.inr hx)))) hb'
      exact List.all_eq_true.1 hall
theorem refR_eq (s : List UInt8) : refR s = prsR s := by
  by_cases hl : s.length ≤ 65536
  · rcases shp_ref s hl with ⟨neg, D, fr, h⟩ | h
    · rw [refR_shp h hl, prs_shp h hl]
    · rcases shp_prs s hl with ⟨neg, D, fr, h'⟩ | h'
      · rw [refR_shp h' hl, prs_shp h' hl]
      · rw [h, h']
  · unfold refR prsR
    rw [if_pos (by omega), if_pos (by omega)]
end Go.Proofs.YtkimmlhcaanfjaaDoor
namespace Go.Proofs.YtkimmlhcaanfjaaDoor
open Go.RowKit
section
variable {P : Program} {n : Nat} {w0 : World} {K : Fm → List Res → Prop} {F : Fm} {L : List Res} {m : Md} {ops : Array Oper} {rest : List Oper} {d : Option Nat} {ty : TypeId} {pos : String} {aft : Array Edge}
theorem OKx_sslH {t : TypeId} [T : TStr P t] {x hi : Operand} {s r : List UInt8} {h : Nat} {k : IntKind} (hx : rv n F x = .string (bOf s)) (hl : rv n F hi = .int k (h : Int)) (h1 : h ≤ s.length) (hr : s.take h = r)
    (kk : OKx P n w0 m ops K rest (updo F d (.string (bOf r))) L) : OKx P n w0 m ops K (⟨d, .slice t x none (some hi) none, ty, pos, aft, none⟩ :: rest) F L :=
  OKx_still (fun w _ _ _ _ _ => by
    have h2 := run_sliceAt_string (P := P) (w := w) t (.string (bOf s)) none (some (.int k (h : Int))) none T.und
    have h3 := run_slice_string_h (P := P) w t (bOf s) T.und k (h : Int) (by omega) (by rw [bOf_size];omega)
    have e : (bOf s).extract 0 h = bOf r := by
      rw [Lib.extract_eq, data_bOf, List.drop_zero, Nat.sub_zero, hr]
      rfl
    rw [Int.toNat_natCast, e] at h3
    rw [h3] at h2
    simp [execOp, hx, hl, h2, Result.andThen]) kk
end
set_option maxRecDepth 100000 in
set_option maxHeartbeats 4000000 in
theorem rPrint_sat (n : Int) (w : World) (ht : TbL w) (h0 : -9223372036854775808 ≤ n) (h1 : n ≤ 9223372036854775807) : SatV Tryd.prog 14 [.int .i64 n] w (.tuple #[.string (bOf (prtR n).1), .int .i64 (prtR n).2]) := by
  by_cases hc : chk2 n = 0
  rotate_left
  · have hr : prtR n = ([], 2) := if_pos hc
    rw [hr]
    have hc2 := (chk2_bad hc).1
    refine SatL.of 44 [2, 3] Tryd.func14 (by kernel_rfl) (by kernel_rfl) rfl rfl rfl rfl ?_
    repeat' (first|(apply OK_seq)|(apply thenQ_n)|(apply OK_region)|(apply OKx_gc 16;exact rfl; refine OKx_callV (f := 16) (v := .int .i64 2) rfl rfl rfl (fun w1 hp => by have := rchk_sat n w1; rwa [hc2] at this) ?_)|(apply OKx_nilK)|(apply OK_block)|(apply blockQ_n)|(apply blockQ_s)|(apply thenQ_e)|(apply blockQ_e;exact rfl)|(apply thenQ_r)|(apply blockQ_r)|(apply OK_condT;exact rfl)|(apply OK_condF;exact rfl)|(apply OK_skip)|(apply OK_exit)|(apply OK_ret)|(apply OKx_move;(conv=>lhs;whnf)<;>exact rfl)|(apply OKx_assign;(conv=>lhs;whnf)<;>exact rfl)|(apply OKx_lenS;exact rfl)|(apply OKx_lss;exact rfl;exact rfl;all_goals (intro _; try (exfalso;omega)))|(apply OKx_eql;exact rfl;exact rfl;all_goals (intro _; try (exfalso;omega)))|(apply OKx_neq;exact rfl;exact rfl;all_goals (intro _; try (exfalso;omega)))|(apply OKx_idxS;exact rfl;exact rfl;omega)|(apply OKx_inc;exact rfl;exact rfl;omega)|(apply OKx_addN;exact rfl;exact rfl;omega)|(apply OKx_add;exact rfl;exact rfl;omega;omega)|(apply OKx_dec;exact rfl;exact rfl;omega;omega)|(apply OKx_subN;exact rfl;exact rfl;omega;omega)|(apply OKx_sub;exact rfl;exact rfl;omega;omega)|(apply OKx_notT;exact rfl)|(apply OKx_notF;exact rfl))
    refine bodyQ_r2 (by ((conv=>lhs;whnf)<;>exact rfl)) (by ((conv=>lhs;whnf)<;>exact rfl)) ?_
    exact ⟨_, Ent.nil, rfl, rfl⟩
  have hr : prtR n = (prtL n, 0) := if_neg (fun h => h hc)
  rw [hr]
  have hn := chk2_ok hc
  have hA : 0 ≤ absI n ∧ absI n ≤ 1073741824 := by unfold absI;omega
  have eq1 : (absI n).tdiv 1000 = absI n / 1000 := Int.tdiv_eq_ediv_of_nonneg hA.1
  have eq2 : (absI n).tmod 1000 = absI n % 1000 := Int.tmod_eq_emod_of_nonneg hA.1
  have hq : 0 ≤ absI n / 1000 ∧ absI n / 1000 ≤ 1073741 := by omega
  have hm : 0 ≤ absI n % 1000 ∧ absI n % 1000 ≤ 999 := by omega
  have hl1 : (Lib.itoa (absI n / 1000)).length ≤ 7 := by
    have e : absI n / 1000 = ((absI n / 1000).toNat : Int) := by omega
    rw [e, itoa_pos]
    exact dec_len 7 _ (by decide) (by omega)
  have hP : prtL n = ((if n < 0 then [45] else []) ++ Lib.itoa (absI n / 1000)) ++ prtF (absI n % 1000) ++ [112, 116] := rfl
  have hl2 : (Lib.itoa (1000 + absI n % 1000)).length ≤ 4 ∧ 1 ≤ (Lib.itoa (1000 + absI n % 1000)).length := by
    have e : 1000 + absI n % 1000 = ((1000 + (absI n % 1000).toNat : Nat) : Int) := by omega
    rw [e, itoa_pos]
    exact ⟨dec_len 4 _ (by decide) (by omega), (dec_facts _).2.1⟩
  have hl3 : (Lib.trimRightB ((Lib.itoa (1000 + absI n % 1000)).drop 1) 48).length ≤ 4 := by
    unfold Lib.trimRightB
    rw [List.length_reverse]
    refine Nat.le_trans ((List.dropWhile_sublist _).length_le) ?_
    rw [List.length_reverse, List.length_drop];omega
  have hl4 : absI n % 1000 ≠ 0 → 1 ≤ (Lib.trimRightB ((Lib.itoa (1000 + absI n % 1000)).drop 1) 48).length := fun h => by
    have e : 1000 + absI n % 1000 = ((1000 + (absI n % 1000).toNat : Nat) : Int) := by omega
    rw [e, itoa_pos]
    exact (frac_back (absI n % 1000).toNat (by omega) (by omega)).1.2.1
  have hF : absI n % 1000 ≠ 0 → prtF (absI n % 1000) = 46 :: Lib.trimRightB ((Lib.itoa (1000 + absI n % 1000)).drop 1) 48 := fun h => if_pos (by omega)
  have hF0 : absI n % 1000 = 0 → prtF (absI n % 1000) = [] := fun h => if_neg (by omega)
  generalize hX : Lib.itoa (1000 + absI n % 1000) = X at *
  generalize hZ : Lib.itoa (absI n / 1000) = Z at *
  by_cases hlt : n < 0
  · rw [if_pos hlt] at hP
    have ean : -n = absI n := by unfold absI;omega
    refine SatL.of 44 [2, 3] Tryd.func14 (by kernel_rfl) (by kernel_rfl) rfl rfl rfl rfl ?_
    repeat' (first|(apply OK_seq)|(apply thenQ_n)|(apply OK_region)|(apply OKx_gc 16;exact rfl; refine OKx_callV (f := 16) (v := .int .i64 0) rfl rfl rfl (fun w1 hp => by have := rchk_sat n w1; rwa [hc] at this) ?_)|(refine OKx_neg rfl (by omega) (by omega) ?_; rw [ean])|(apply OKx_gn; refine OKx_quo rfl rfl (by omega) (by omega) (by omega) ?_; rw [eq1])|(apply OKx_gn; refine OKx_rem rfl rfl (by omega) ?_; rw [eq2])|(apply OKx_gn; refine OKx_add rfl rfl (by omega) (by omega) ?_)|(apply OKx_gc 35;exact rfl; refine OKx_callV (f := 35) (v := .string (bOf Z)) rfl rfl rfl (fun w1 hp => by have := itoa_sat (absI n / 1000) w1 (ht.below hp.below) (by omega) (by omega); rwa [hZ] at this) ?_)|(apply OKx_gc 35;exact rfl; refine OKx_callV (f := 35) (v := .string (bOf X)) rfl rfl rfl (fun w1 hp => by have := itoa_sat (1000 + absI n % 1000) w1 (ht.below hp.below) (by omega) (by omega); rwa [hX] at this) ?_)|(refine OKx_sslL (l := 1) rfl rfl (by omega) rfl ?_)|(refine OKx_saddB rfl rfl (by simp only [List.length_append, List.length_cons, List.length_nil];omega) rfl ?_)|(apply OKx_nilK)|(apply OK_block)|(apply blockQ_n)|(apply blockQ_s)|(apply thenQ_e)|(apply blockQ_e;exact rfl)|(apply thenQ_r)|(apply blockQ_r)|(apply OK_condT;exact rfl)|(apply OK_condF;exact rfl)|(apply OK_skip)|(apply OK_exit)|(apply OK_ret)|(apply OKx_move;(conv=>lhs;whnf)<;>exact rfl)|(apply OKx_assign;(conv=>lhs;whnf)<;>exact rfl)|(apply OKx_lenS;exact rfl)|(apply OKx_lss;exact rfl;exact rfl;all_goals (intro _; try (exfalso;omega)))|(apply OKx_eql;exact rfl;exact rfl;all_goals (intro _; try (exfalso;omega)))|(apply OKx_neq;exact rfl;exact rfl;all_goals (intro _; try (exfalso;omega)))|(apply OKx_idxS;exact rfl;exact rfl;omega)|(apply OKx_inc;exact rfl;exact rfl;omega)|(apply OKx_addN;exact rfl;exact rfl;omega)|(apply OKx_add;exact rfl;exact rfl;omega;omega)|(apply OKx_dec;exact rfl;exact rfl;omega;omega)|(apply OKx_subN;exact rfl;exact rfl;omega;omega)|(apply OKx_sub;exact rfl;exact rfl;omega;omega)|(apply OKx_notT;exact rfl)|(apply OKx_notF;exact rfl))
    · rename_i hh
      generalize hY : Lib.trimRightB (X.drop 1) 48 = Y at *
      have hY1 := hl4 hh
      have hdl : (X.drop 1).length ≤ 3 := by rw [List.length_drop];omega
      refine OK_loop1 6 [6, 27, 28, 29, 30, 31, 32, 33, 34, 35, 36, 37] (fun m v L => ∃ p : List UInt8, p.length = m ∧ m ≤ 3 ∧ v = .string (bOf p) ∧ Lib.trimRightB p 48 = Y ∧ L = []) (X.drop 1).length _ (Ent.refl _ _) ⟨X.drop 1, rfl, hdl, rfl, hY, rfl⟩ ?_
      rintro m v L G ⟨p, hpm, hp3, rfl, hpY, rfl⟩
      have hpz : (bOf p).size = p.length := bOf_size p
      have hp1 : 1 ≤ p.length := by
        by_cases h9 : p = []
        · subst h9
          have : Y = [] := hpY.symm
          rw [this] at hY1; simp at hY1
        · exact List.length_pos_iff.2 h9
      obtain ⟨q, d, rfl⟩ : ∃ q d, p = q ++ [d] := ⟨p.dropLast, p.getLast (List.length_pos_iff.1 hp1), (List.dropLast_concat_getLast _).symm⟩
      have hq1 : (q ++ [d]).length = q.length + 1 := by simp
      have hgd : (q ++ [d]).getD q.length 0 = d := by simp
      have htk : (q ++ [d]).take q.length = q := by simp
      by_cases hd : d.toNat = 48
      · have hd' : d = 48 := u8_eq hd
        repeat' (first|(apply OK_seq)|(apply thenQ_n)|(apply OK_region)|(apply OKx_gn; refine OKx_subN (a := (q ++ [d]).length) (b := 1) rfl rfl (by omega) (by omega) ?_; rw [hq1, Nat.add_sub_cancel])|(refine OKx_idxB (i := q.length) rfl rfl (by omega) ?_; rw [hgd])|(refine OKx_sslH (h := q.length) rfl rfl (by omega) htk ?_)|(apply OKx_nilK)|(apply OK_block)|(apply blockQ_n)|(apply blockQ_s)|(apply thenQ_e)|(apply blockQ_e;exact rfl)|(apply thenQ_r)|(apply blockQ_r)|(apply OK_condT;exact rfl)|(apply OK_condF;exact rfl)|(apply OK_skip)|(apply OK_exit)|(apply OK_ret)|(apply OKx_move;(conv=>lhs;whnf)<;>exact rfl)|(apply OKx_assign;(conv=>lhs;whnf)<;>exact rfl)|(apply OKx_lenS;exact rfl)|(apply OKx_lss;exact rfl;exact rfl;all_goals (intro _; try (exfalso;omega)))|(apply OKx_eql;exact rfl;exact rfl;all_goals (intro _; try (exfalso;omega)))|(apply OKx_neq;exact rfl;exact rfl;all_goals (intro _; try (exfalso;omega)))|(apply OKx_idxS;exact rfl;exact rfl;omega)|(apply OKx_inc;exact rfl;exact rfl;omega)|(apply OKx_addN;exact rfl;exact rfl;omega)|(apply OKx_add;exact rfl;exact rfl;omega;omega)|(apply OKx_dec;exact rfl;exact rfl;omega;omega)|(apply OKx_subN;exact rfl;exact rfl;omega;omega)|(apply OKx_sub;exact rfl;exact rfl;omega;omega)|(apply OKx_notT;exact rfl)|(apply OKx_notF;exact rfl))
        refine ⟨by (repeat' (first | refine agree_upd rfl ?_ | exact agree_over | exact agree_refl _ _ | refine agree_over2 rfl ?_)), q.length, _, by omega, Ent.refl _ _, ?_⟩
        exact ⟨q, rfl, by omega, rfl, by rw [← hpY, hd', trimB1], rfl⟩
      · have hd' : d ≠ 48 := fun e => hd (by rw [e]; rfl)
        rw [trimB0 _ _ hd'] at hpY
        repeat' (first|(apply OK_seq)|(apply thenQ_n)|(apply OK_region)|(apply OKx_gn; refine OKx_subN (a := (q ++ [d]).length) (b := 1) rfl rfl (by omega) (by omega) ?_; rw [hq1, Nat.add_sub_cancel])|(refine OKx_idxB (i := q.length) rfl rfl (by omega) ?_; rw [hgd])|(refine OKx_saddB rfl rfl (by simp only [List.length_append, List.length_cons, List.length_nil];omega) rfl ?_)|(apply OKx_nilK)|(apply OK_block)|(apply blockQ_n)|(apply blockQ_s)|(apply thenQ_e)|(apply blockQ_e;exact rfl)|(apply thenQ_r)|(apply blockQ_r)|(apply OK_condT;exact rfl)|(apply OK_condF;exact rfl)|(apply OK_skip)|(apply OK_exit)|(apply OK_ret)|(apply OKx_move;(conv=>lhs;whnf)<;>exact rfl)|(apply OKx_assign;(conv=>lhs;whnf)<;>exact rfl)|(apply OKx_lenS;exact rfl)|(apply OKx_lss;exact rfl;exact rfl;all_goals (intro _; try (exfalso;omega)))|(apply OKx_eql;exact rfl;exact rfl;all_goals (intro _; try (exfalso;omega)))|(apply OKx_neq;exact rfl;exact rfl;all_goals (intro _; try (exfalso;omega)))|(apply OKx_idxS;exact rfl;exact rfl;omega)|(apply OKx_inc;exact rfl;exact rfl;omega)|(apply OKx_addN;exact rfl;exact rfl;omega)|(apply OKx_add;exact rfl;exact rfl;omega;omega)|(apply OKx_dec;exact rfl;exact rfl;omega;omega)|(apply OKx_subN;exact rfl;exact rfl;omega;omega)|(apply OKx_sub;exact rfl;exact rfl;omega;omega)|(apply OKx_notT;exact rfl)|(apply OKx_notF;exact rfl))
        refine bodyQ_r2 (by ((conv=>lhs;whnf)<;>exact rfl)) (by ((conv=>lhs;whnf)<;>exact rfl)) ?_
        exact ⟨_, Ent.nil, by rw [hP, hF hh, ← hpY]; simp only [List.append_assoc, List.cons_append, List.nil_append], rfl⟩
    · rename_i hh
      refine bodyQ_r2 (by ((conv=>lhs;whnf)<;>exact rfl)) (by ((conv=>lhs;whnf)<;>exact rfl)) ?_
      exact ⟨_, Ent.nil, by rw [hP, hF0 (by omega), List.append_nil], rfl⟩
  · rw [if_neg hlt] at hP
    have ean : absI n = n := by unfold absI;omega
    rw [ean] at eq1 eq2 hF hF0 hX hZ hl4 hm hq hA hP
    refine SatL.of 44 [2, 3] Tryd.func14 (by kernel_rfl) (by kernel_rfl) rfl rfl rfl rfl ?_
    repeat' (first|(apply OK_seq)|(apply thenQ_n)|(apply OK_region)|(apply OKx_gc 16;exact rfl; refine OKx_callV (f := 16) (v := .int .i64 0) rfl rfl rfl (fun w1 hp => by have := rchk_sat n w1; rwa [hc] at this) ?_)|(apply OKx_gn; refine OKx_quo rfl rfl (by omega) (by omega) (by omega) ?_; rw [eq1])|(apply OKx_gn; refine OKx_rem rfl rfl (by omega) ?_; rw [eq2])|(apply OKx_gn; refine OKx_add rfl rfl (by omega) (by omega) ?_)|(apply OKx_gc 35;exact rfl; refine OKx_callV (f := 35) (v := .string (bOf Z)) rfl rfl rfl (fun w1 hp => by have := itoa_sat (n / 1000) w1 (ht.below hp.below) (by omega) (by omega); rwa [hZ] at this) ?_)|(apply OKx_gc 35;exact rfl; refine OKx_callV (f := 35) (v := .string (bOf X)) rfl rfl rfl (fun w1 hp => by have := itoa_sat (1000 + n % 1000) w1 (ht.below hp.below) (by omega) (by omega); rwa [hX] at this) ?_)|(refine OKx_sslL (l := 1) rfl rfl (by omega) rfl ?_)|(refine OKx_saddB rfl rfl (by simp only [List.length_append, List.length_cons, List.length_nil];omega) rfl ?_)|(apply OKx_nilK)|(apply OK_block)|(apply blockQ_n)|(apply blockQ_s)|(apply thenQ_e)|(apply blockQ_e;exact rfl)|(apply thenQ_r)|(apply blockQ_r)|(apply OK_condT;exact rfl)|(apply OK_condF;exact rfl)|(apply OK_skip)|(apply OK_exit)|(apply OK_ret)|(apply OKx_move;(conv=>lhs;whnf)<;>exact rfl)|(apply OKx_assign;(conv=>lhs;whnf)<;>exact rfl)|(apply OKx_lenS;exact rfl)|(apply OKx_lss;exact rfl;exact rfl;all_goals (intro _; try (exfalso;omega)))|(apply OKx_eql;exact rfl;exact rfl;all_goals (intro _; try (exfalso;omega)))|(apply OKx_neq;exact rfl;exact rfl;all_goals (intro _; try (exfalso;omega)))|(apply OKx_idxS;exact rfl;exact rfl;omega)|(apply OKx_inc;exact rfl;exact rfl;omega)|(apply OKx_addN;exact rfl;exact rfl;omega)|(apply OKx_add;exact rfl;exact rfl;omega;omega)|(apply OKx_dec;exact rfl;exact rfl;omega;omega)|(apply OKx_subN;exact rfl;exact rfl;omega;omega)|(apply OKx_sub;exact rfl;exact rfl;omega;omega)|(apply OKx_notT;exact rfl)|(apply OKx_notF;exact rfl))
    · rename_i hh
      generalize hY : Lib.trimRightB (X.drop 1) 48 = Y at *
      have hY1 := hl4 hh
      have hdl : (X.drop 1).length ≤ 3 := by rw [List.length_drop];omega
      refine OK_loop1 6 [6, 27, 28, 29, 30, 31, 32, 33, 34, 35, 36, 37] (fun m v L => ∃ p : List UInt8, p.length = m ∧ m ≤ 3 ∧ v = .string (bOf p) ∧ Lib.trimRightB p 48 = Y ∧ L = []) (X.drop 1).length _ (Ent.refl _ _) ⟨X.drop 1, rfl, hdl, rfl, hY, rfl⟩ ?_
      rintro m v L G ⟨p, hpm, hp3, rfl, hpY, rfl⟩
      have hpz : (bOf p).size = p.length := bOf_size p
      have hp1 : 1 ≤ p.length := by
        by_cases h9 : p = []
        · subst h9
          have : Y = [] := hpY.symm
          rw [this] at hY1; simp at hY1
        · exact List.length_pos_iff.2 h9
      obtain ⟨q, d, rfl⟩ : ∃ q d, p = q ++ [d] := ⟨p.dropLast, p.getLast (List.length_pos_iff.1 hp1), (List.dropLast_concat_getLast _).symm⟩
      have hq1 : (q ++ [d]).length = q.length + 1 := by simp
      have hgd : (q ++ [d]).getD q.length 0 = d := by simp
      have htk : (q ++ [d]).take q.length = q := by simp
      by_cases hd : d.toNat = 48
      · have hd' : d = 48 := u8_eq hd
        repeat' (first|(apply OK_seq)|(apply thenQ_n)|(apply OK_region)|(apply OKx_gn; refine OKx_subN (a := (q ++ [d]).length) (b := 1) rfl rfl (by omega) (by omega) ?_; rw [hq1, Nat.add_sub_cancel])|(refine OKx_idxB (i := q.length) rfl rfl (by omega) ?_; rw [hgd])|(refine OKx_sslH (h := q.length) rfl rfl (by omega) htk ?_)|(apply OKx_nilK)|(apply OK_block)|(apply blockQ_n)|(apply blockQ_s)|(apply thenQ_e)|(apply blockQ_e;exact rfl)|(apply thenQ_r)|(apply blockQ_r)|(apply OK_condT;exact rfl)|(apply OK_condF;exact rfl)|(apply OK_skip)|(apply OK_exit)|(apply OK_ret)|(apply OKx_move;(conv=>lhs;whnf)<;>exact rfl)|(apply OKx_assign;(conv=>lhs;whnf)<;>exact rfl)|(apply OKx_lenS;exact rfl)|(apply OKx_lss;exact rfl;exact rfl;all_goals (intro _; try (exfalso;omega)))|(apply OKx_eql;exact rfl;exact rfl;all_goals (intro _; try (exfalso;omega)))|(apply OKx_neq;exact rfl;exact rfl;all_goals (intro _; try (exfalso;omega)))|(apply OKx_idxS;exact rfl;exact rfl;omega)|(apply OKx_inc;exact rfl;exact rfl;omega)|(apply OKx_addN;exact rfl;exact rfl;omega)|(apply OKx_add;exact rfl;exact rfl;omega;omega)|(apply OKx_dec;exact rfl;exact rfl;omega;omega)|(apply OKx_subN;exact rfl;exact rfl;omega;omega)|(apply OKx_sub;exact rfl;exact rfl;omega;omega)|(apply OKx_notT;exact rfl)|(apply OKx_notF;exact rfl))
        refine ⟨by (repeat' (first | refine agree_upd rfl ?_ | exact agree_over | exact agree_refl _ _ | refine agree_over2 rfl ?_)), q.length, _, by omega, Ent.refl _ _, ?_⟩
        exact ⟨q, rfl, by omega, rfl, by rw [← hpY, hd', trimB1], rfl⟩
      · have hd' : d ≠ 48 := fun e => hd (by rw [e]; rfl)
        rw [trimB0 _ _ hd'] at hpY
        repeat' (first|(apply OK_seq)|(apply thenQ_n)|(apply OK_region)|(apply OKx_gn; refine OKx_subN (a := (q ++ [d]).length) (b := 1) rfl rfl (by omega) (by omega) ?_; rw [hq1, Nat.add_sub_cancel])|(refine OKx_idxB (i := q.length) rfl rfl (by omega) ?_; rw [hgd])|(refine OKx_saddB rfl rfl (by simp only [List.length_append, List.length_cons, List.length_nil];omega) rfl ?_)|(apply OKx_nilK)|(apply OK_block)|(apply blockQ_n)|(apply blockQ_s)|(apply thenQ_e)|(apply blockQ_e;exact rfl)|(apply thenQ_r)|(apply blockQ_r)|(apply OK_condT;exact rfl)|(apply OK_condF;exact rfl)|(apply OK_skip)|(apply OK_exit)|(apply OK_ret)|(apply OKx_move;(conv=>lhs;whnf)<;>exact rfl)|(apply OKx_assign;(conv=>lhs;whnf)<;>exact rfl)|(apply OKx_lenS;exact rfl)|(apply OKx_lss;exact rfl;exact rfl;all_goals (intro _; try (exfalso;omega)))|(apply OKx_eql;exact rfl;exact rfl;all_goals (intro _; try (exfalso;omega)))|(apply OKx_neq;exact rfl;exact rfl;all_goals (intro _; try (exfalso;omega)))|(apply OKx_idxS;exact rfl;exact rfl;omega)|(apply OKx_inc;exact rfl;exact rfl;omega)|(apply OKx_addN;exact rfl;exact rfl;omega)|(apply OKx_add;exact rfl;exact rfl;omega;omega)|(apply OKx_dec;exact rfl;exact rfl;omega;omega)|(apply OKx_subN;exact rfl;exact rfl;omega;omega)|(apply OKx_sub;exact rfl;exact rfl;omega;omega)|(apply OKx_notT;exact rfl)|(apply OKx_notF;exact rfl))
        refine bodyQ_r2 (by ((conv=>lhs;whnf)<;>exact rfl)) (by ((conv=>lhs;whnf)<;>exact rfl)) ?_
        exact ⟨_, Ent.nil, by rw [hP, hF hh, ← hpY, List.nil_append]; simp only [List.append_assoc, List.cons_append, List.nil_append], rfl⟩
    · rename_i hh
      refine bodyQ_r2 (by ((conv=>lhs;whnf)<;>exact rfl)) (by ((conv=>lhs;whnf)<;>exact rfl)) ?_
      exact ⟨_, Ent.nil, by rw [hP, hF0 (by omega), List.append_nil, List.nil_append], rfl⟩
end Go.Proofs.YtkimmlhcaanfjaaDoor
namespace Go.Proofs.YtkimmlhcaanfjaaDoor
open Go.RowKit
set_option maxRecDepth 100000 in
set_option maxHeartbeats 4000000 in
theorem rdig_sat (b : UInt8) (w : World) : SatV Tryd.prog 34 [.int .u8 (b.toNat : Int)] w (.bool (isDg b)) := by
  have hb : b.toNat < 256 := b.toNat_lt
  cases h : isDg b with
  | true =>
    have hr := isDg_rng h
    refine SatL.of 9 [2] Tryd.func34 (by kernel_rfl) (by kernel_rfl) rfl rfl rfl rfl ?_
    repeat' (first|(apply OK_seq)|(apply thenQ_n)|(apply OK_region)|(apply OKx_nilK)|(apply OK_block)|(apply blockQ_n)|(apply blockQ_s)|(apply thenQ_e)|(apply blockQ_e;exact rfl)|(apply thenQ_r)|(apply blockQ_r)|(apply OK_condT;exact rfl)|(apply OK_condF;exact rfl)|(apply OK_skip)|(apply OK_exit)|(apply OK_ret)|(apply OKx_move;(conv=>lhs;whnf)<;>exact rfl)|(apply OKx_assign;(conv=>lhs;whnf)<;>exact rfl)|(apply OKx_leq;exact rfl;exact rfl;all_goals (intro _; try (exfalso;omega)))|(apply OKx_geq;exact rfl;exact rfl;all_goals (intro _; try (exfalso;omega)))|(apply OKx_pickT;exact rfl;(conv=>lhs;whnf)<;>exact rfl)|(apply OKx_pickF;exact rfl;(conv=>lhs;whnf)<;>exact rfl)|(apply OKx_guardT;exact rfl;exact rfl)|(apply OKx_guardF;exact rfl;exact rfl)|(apply OKx_guardU;exact rfl;exact rfl))
    refine bodyQ_r1 (by ((conv=>lhs;whnf)<;>exact rfl)) ?_
    exact ⟨_, Ent.nil, rfl, rfl⟩
  | false =>
    have h3 : ¬ (48 ≤ b.toNat ∧ b.toNat ≤ 57) := fun ⟨p, q⟩ => by
      unfold isDg at h
      simp only [Bool.and_eq_false_iff, decide_eq_false_iff_not] at h
      rcases h with h | h
      · exact h p
      · exact h q
    refine SatL.of 9 [2] Tryd.func34 (by kernel_rfl) (by kernel_rfl) rfl rfl rfl rfl ?_
    repeat' (first|(apply OK_seq)|(apply thenQ_n)|(apply OK_region)|(apply OKx_nilK)|(apply OK_block)|(apply blockQ_n)|(apply blockQ_s)|(apply thenQ_e)|(apply blockQ_e;exact rfl)|(apply thenQ_r)|(apply blockQ_r)|(apply OK_condT;exact rfl)|(apply OK_condF;exact rfl)|(apply OK_skip)|(apply OK_exit)|(apply OK_ret)|(apply OKx_move;(conv=>lhs;whnf)<;>exact rfl)|(apply OKx_assign;(conv=>lhs;whnf)<;>exact rfl)|(apply OKx_leq;exact rfl;exact rfl;all_goals (intro _; try (exfalso;omega)))|(apply OKx_geq;exact rfl;exact rfl;all_goals (intro _; try (exfalso;omega)))|(apply OKx_pickT;exact rfl;(conv=>lhs;whnf)<;>exact rfl)|(apply OKx_pickF;exact rfl;(conv=>lhs;whnf)<;>exact rfl)|(apply OKx_guardT;exact rfl;exact rfl)|(apply OKx_guardF;exact rfl;exact rfl)|(apply OKx_guardU;exact rfl;exact rfl))
    all_goals
      refine bodyQ_r1 (by ((conv=>lhs;whnf)<;>exact rfl)) ?_
      exact ⟨_, Ent.nil, rfl, rfl⟩
def pth (F : List UInt8) : Nat → Int
  | 0 => 0
  | k + 1 => pth F k * 10 + if k < F.length then dgv (F.getD k 0) else 0
theorem pth_rng (F : List UInt8) (k : Nat) (h : ∀ j, j < k → j < F.length → isDg (F.getD j 0) = true) : 0 ≤ pth F k ∧ pth F k ≤ 10 ^ k - 1 := by
  induction k with
  | zero => simp [pth]
  | succ k ih =>
    have h1 := ih fun j hj => h j (by omega)
    rw [pth, Int.pow_succ]
    split
    · have := dgv_rng (h k (by omega) ‹_›)
      omega
    · omega
theorem pth_end (F : List UInt8) (h1 : 1 ≤ F.length) (h3 : F.length ≤ 3) : pth F 3 = dgsF F := by
  match F, h1, h3 with
  | [a], _, _ => rw [dgsF_1]; show ((0 * 10 + dgv a) * 10 + 0) * 10 + 0 = _;omega
  | [a, b], _, _ => rw [dgsF_2]; show ((0 * 10 + dgv a) * 10 + dgv b) * 10 + 0 = _;omega
  | [a, b, c], _, _ => rw [dgsF_3]; show ((0 * 10 + dgv a) * 10 + dgv b) * 10 + dgv c = _;omega
theorem all_dig {F : List UInt8} (h : ∀ j, j < F.length → isDg (F.getD j 0) = true) : F.all isDg = true := by
  rw [List.all_eq_true]
  intro x hx
  obtain ⟨j, hj, rfl⟩ := List.getElem_of_mem hx
  have := h j hj
  rwa [getD_lt _ _ _ hj] at this
theorem not_all_dig {F : List UInt8} {j : Nat} (hj : j < F.length) (h : isDg (F.getD j 0) = false) : F.all isDg = false := by
  rw [Bool.eq_false_iff]
  intro ha
  have := List.all_eq_true.1 ha (F.getD j 0) (by rw [getD_lt _ _ _ hj]; exact List.getElem_mem hj)
  rw [h] at this; cases this
end Go.Proofs.YtkimmlhcaanfjaaDoor
