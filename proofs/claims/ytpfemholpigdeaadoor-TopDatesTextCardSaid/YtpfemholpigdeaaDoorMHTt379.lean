/-
  Part 9 of the proof: It36, StemC, StemR, Ext. No statement of the seat is proved here.
-/
import Derived.Test.YtpfemholpigdeaaDoorMHTt378
namespace Go.Proofs.YtpfemholpigdeaaDoor
open Go.RowKit
set_option maxRecDepth 100000 in
set_option maxHeartbeats 4000000 in
theorem lns_sat (t : ByteArray) (w : World) : Sat Tryd.prog 37 [.string t] w (fun u L => ∃ gl, u = .func (.func 66) #[] #[.pointer (some ⟨gl, 0, none⟩)] ∧ L = [.box 9 gl [.string t]]) := by
  refine SatL.of 4 [2] Tryd.func37 (by kernel_rfl) (by kernel_rfl) rfl rfl rfl rfl ?_
  repeat' (first|(apply OK_seq)|(apply thenQ_n)|(apply OK_region)|(apply OKx_nilK)|(apply OK_block)|(apply blockQ_n)|(apply blockQ_s)|(apply thenQ_e)|(apply blockQ_e;exact rfl)|(apply thenQ_r)|(apply blockQ_r)|(apply OK_condT;exact rfl)|(apply OK_condF;exact rfl)|(apply OK_skip)|(apply OK_exit)|(apply OK_ret)|(apply OKx_assign;(conv=>lhs;whnf)<;>exact rfl)|(apply OKx_box1;(conv=>lhs;whnf)<;>exact rfl;exact rfl;intro _)|(apply OKx_func;exact rfl;exact rfl))
  rename_i gl
  refine bodyQ_r1 (by ((conv=>lhs;whnf)<;>exact rfl)) ?_
  exact ⟨_, Ent.refl _ _, gl, rfl, rfl⟩
def ItL (Br : List Res) (Bd : Code → List Res) (P : List Res → Prop) (JE : Code → List Res → Prop) (_ : Value) (L : List Res) : Prop := (∃ J', P J' ∧ L = J' ++ Br) ∨ (∃ c J', JE c J' ∧ L = J' ++ Bd c)
def wvOk (wv : Value) (ws : List ByteArray) : Prop := (ws = [] ∧ wv = .slice none 0 0) ∨ ∃ g, wv = .slice (some ⟨g, 0, none⟩) ws.length ws.length
def zL (gl : Nat) (cur : List UInt8) : Res := .box 9 gl [.string (bOf cur)]
def YldL (gl : Nat) (cur : List UInt8) (Br : List Res) (Bd : Code → List Res) (JP : List (List ByteArray) → List Res → Prop) (JE : Code → List Res → Prop) (pre : List (List ByteArray)) (ws : List ByteArray) (u : Value) (L : List Res) : Prop :=
  (u = .bool true ∧ ∃ J', JP (pre ++ [ws]) J' ∧ L = (zL gl cur :: J') ++ Br) ∨ (u = .bool false ∧ ∃ c J', JE c J' ∧ L = (zL gl cur :: J') ++ Bd c)
set_option maxRecDepth 100000 in
set_option maxHeartbeats 4000000 in
theorem linI_sat (y gl : Nat) (t : List UInt8) (w0 : World) (J Br : List Res) (Bd : Code → List Res) (JP : List (List ByteArray) → List Res → Prop) (JE : Code → List Res → Prop)
    (hm : MxL w0) (ht : t.length ≤ 65536) (hJ : JP [] J)
    (hy : ∀ cur wv ws pre J, wvOk wv ws → JP pre J → (pre ++ [ws]) <+: linW t → SatY Tryd.prog y [wv] w0 ((rW wv ws :: zL gl cur :: J) ++ Br) (YldL gl cur Br Bd JP JE pre ws)) :
    SatL Tryd.prog 66 [.func (.yield y) #[] #[], .pointer (some ⟨gl, 0, none⟩)] w0 (zL gl t :: (J ++ Br)) (ItL Br Bd (JP (linW t)) JE) := by
  generalize hR : ItL Br Bd (JP (linW t)) JE = R
  refine SatL.of 23 [] Tryd.func66 (by kernel_rfl) (by kernel_rfl) rfl rfl rfl rfl ?_
  repeat' (first|(apply OK_seq)|(apply thenQ_n)|(apply OK_region)|(apply OKx_nilK)|(apply OK_block)|(apply blockQ_n)|(apply blockQ_s)|(apply thenQ_e)|(apply blockQ_e;exact rfl)|(apply thenQ_r)|(apply blockQ_r)|(apply OK_condT;exact rfl)|(apply OK_condF;exact rfl)|(apply OK_skip)|(apply OK_exit)|(apply OK_ret)|(apply OKx_move;(conv=>lhs;whnf)<;>exact rfl)|(apply OKx_assign;(conv=>lhs;whnf)<;>exact rfl)|(apply OKx_ldB;exact rfl;(first | exact at0|exact at1|exact at2|exact at3|exact at4|exact at5|exact at6|exact at7);exact rfl)|(apply OKx_ldR;(conv=>lhs;whnf)<;>exact rfl;(with_reducible assumption))|(apply OKx_sneq;exact rfl;exact rfl; all_goals intro _)|(apply OKx_notT;exact rfl)|(apply OKx_notF;exact rfl)|(apply OKx_extract;exact rfl;(conv=>lhs;whnf)<;>exact rfl)|(apply OKx_stB;exact rfl;(conv=>lhs;whnf)<;>exact rfl;exact rfl;exact rfl;(first | exact at0|exact at1|exact at2|exact at3|exact at4|exact at5|exact at6|exact at7);exact rfl;exact rfl;exact rfl))
  refine OK_loop1 22 [3, 4, 5, 6, 7, 8, 9, 10, 11, 12, 13, 14, 15, 16, 17, 18, 19, 20, 21, 22] (fun m v L => ∃ (cur : List UInt8) (pre : List (List ByteArray)) (J' : List Res), cur.length = m ∧ m ≤ 65536 ∧ pre ++ linW cur = linW t ∧ JP pre J' ∧ L = zL gl cur :: (J' ++ Br)) t.length _ (Ent.refl _ _) ⟨t, [], J, rfl, ht, rfl, hJ, rfl⟩ ?_
  rintro m v L G ⟨cur, pre, J', hm', hle, hpre, hJ', rfl⟩
  unfold zL
  by_cases hc : cur = []
  · subst hc
    rw [linW_nil, List.append_nil] at hpre
    subst hpre
    have e0 : bOf [] = ByteArray.empty := rfl
    rw [e0]
    repeat' (first|(apply OK_seq)|(apply thenQ_n)|(apply OK_region)|(apply OKx_gn; apply OKx_sneq;exact rfl;exact rfl; all_goals (intro hs; first | exact absurd rfl hs | skip))|(apply OKx_nilK)|(apply OK_block)|(apply blockQ_n)|(apply blockQ_s)|(apply thenQ_e)|(apply blockQ_e;exact rfl)|(apply thenQ_r)|(apply blockQ_r)|(apply OK_condT;exact rfl)|(apply OK_condF;exact rfl)|(apply OK_skip)|(apply OK_exit)|(apply OK_ret)|(apply OKx_move;(conv=>lhs;whnf)<;>exact rfl)|(apply OKx_assign;(conv=>lhs;whnf)<;>exact rfl)|(apply OKx_ldB;exact rfl;(first | exact at0|exact at1|exact at2|exact at3|exact at4|exact at5|exact at6|exact at7);exact rfl)|(apply OKx_ldR;(conv=>lhs;whnf)<;>exact rfl;(with_reducible assumption))|(apply OKx_sneq;exact rfl;exact rfl; all_goals intro _)|(apply OKx_notT;exact rfl)|(apply OKx_notF;exact rfl)|(apply OKx_extract;exact rfl;(conv=>lhs;whnf)<;>exact rfl)|(apply OKx_stB;exact rfl;(conv=>lhs;whnf)<;>exact rfl;exact rfl;exact rfl;(first | exact at0|exact at1|exact at2|exact at3|exact at4|exact at5|exact at6|exact at7);exact rfl;exact rfl;exact rfl))
    first | refine bodyQ_r0 ?_ | refine bodyQ_n0 ?_
    subst hR
    exact ⟨_, Ent.sub (List.sublist_cons_self _ _), .inl ⟨J', hJ', rfl⟩⟩
  have hpos : 0 < cur.length := List.length_pos_iff.2 hc
  have hne : bOf cur ≠ ByteArray.empty := fun e => hc (by have := congrArg (fun s : ByteArray => s.data.toList) e; exact this)
  have hsz : (bOf cur).size ≤ 4000000000 := by rw [bOf_size];omega
  have hcut := fun w1 (hb : Below w0.heap.size w0 w1) => cut_sat (bOf cur) 10 w1 (hm.below hb) hsz
  rw [data_bOf] at hcut
  rcases cut1 cur 10 with ⟨hno, e⟩ | ⟨a, b, rfl, hno, e⟩
  · rw [e] at hcut
    rw [linW_miss cur hno hc] at hpre
    repeat' (first|(refine OK_regionY (id := 5) 0 [_, _] [_] rfl rfl ?_)|(apply OK_seq)|(apply thenQ_n)|(apply OK_region)|(apply OKx_gn; apply OKx_sneq;exact rfl;exact rfl; all_goals (intro hs; first | exact absurd hs hne | skip))|(apply OKx_gc 67;exact rfl; refine OKx_callV (f := 67) rfl rfl rfl (fun w1 hp => hcut w1 hp.below) ?_)|(apply OKx_nilK)|(apply OK_block)|(apply blockQ_n)|(apply blockQ_s)|(apply thenQ_e)|(apply blockQ_e;exact rfl)|(apply thenQ_r)|(apply blockQ_r)|(apply OK_condT;exact rfl)|(apply OK_condF;exact rfl)|(apply OK_skip)|(apply OK_exit)|(apply OK_ret)|(apply OKx_move;(conv=>lhs;whnf)<;>exact rfl)|(apply OKx_assign;(conv=>lhs;whnf)<;>exact rfl)|(apply OKx_ldB;exact rfl;(first | exact at0|exact at1|exact at2|exact at3|exact at4|exact at5|exact at6|exact at7);exact rfl)|(apply OKx_ldR;(conv=>lhs;whnf)<;>exact rfl;(with_reducible assumption))|(apply OKx_sneq;exact rfl;exact rfl; all_goals intro _)|(apply OKx_notT;exact rfl)|(apply OKx_notF;exact rfl)|(apply OKx_extract;exact rfl;(conv=>lhs;whnf)<;>exact rfl)|(apply OKx_stB;exact rfl;(conv=>lhs;whnf)<;>exact rfl;exact rfl;exact rfl;(first | exact at0|exact at1|exact at2|exact at3|exact at4|exact at5|exact at6|exact at7);exact rfl;exact rfl;exact rfl))
    have hyy := hy cur (.slice none 0 0) [] pre J' (.inl ⟨rfl, rfl⟩) hJ' ⟨[], by rw [List.append_nil]; exact hpre⟩
    refine ⟨y, [.slice none 0 0], _, (by ((conv=>lhs;whnf)<;>exact rfl)), (by ((conv=>lhs;whnf)<;>exact rfl)), fun w hp => hyy w (by have := hp.nil 9 1; exact this), ?_⟩
    rintro _ _ (⟨rfl, J2, hJ2, rfl⟩ | ⟨rfl, cc, J2, hJ2, rfl⟩)
    · rw [List.cons_append]
      unfold zL
      repeat' (first|(apply OK_seq)|(apply thenQ_n)|(apply OK_region)|(apply OKx_nilK)|(apply OK_block)|(apply blockQ_n)|(apply blockQ_s)|(apply thenQ_e)|(apply blockQ_e;exact rfl)|(apply thenQ_r)|(apply blockQ_r)|(apply OK_condT;exact rfl)|(apply OK_condF;exact rfl)|(apply OK_skip)|(apply OK_exit)|(apply OK_ret)|(apply OKx_move;(conv=>lhs;whnf)<;>exact rfl)|(apply OKx_assign;(conv=>lhs;whnf)<;>exact rfl)|(apply OKx_ldB;exact rfl;(first | exact at0|exact at1|exact at2|exact at3|exact at4|exact at5|exact at6|exact at7);exact rfl)|(apply OKx_ldR;(conv=>lhs;whnf)<;>exact rfl;(with_reducible assumption))|(apply OKx_sneq;exact rfl;exact rfl; all_goals intro _)|(apply OKx_notT;exact rfl)|(apply OKx_notF;exact rfl)|(apply OKx_extract;exact rfl;(conv=>lhs;whnf)<;>exact rfl)|(apply OKx_stB;exact rfl;(conv=>lhs;whnf)<;>exact rfl;exact rfl;exact rfl;(first | exact at0|exact at1|exact at2|exact at3|exact at4|exact at5|exact at6|exact at7);exact rfl;exact rfl;exact rfl))
      refine ⟨by (repeat' (first | refine agree_upd rfl ?_ | exact agree_over | exact agree_refl _ _ | refine agree_over2 rfl ?_)), 0, _, by omega, Ent.refl _ _, ?_⟩
      exact ⟨[], linW t, J2, rfl, by omega, by rw [linW_nil, List.append_nil], by rw [← hpre]; exact hJ2, rfl⟩
    · rw [List.cons_append]
      unfold zL
      repeat' (first|(apply OK_seq)|(apply thenQ_n)|(apply OK_region)|(apply OKx_nilK)|(apply OK_block)|(apply blockQ_n)|(apply blockQ_s)|(apply thenQ_e)|(apply blockQ_e;exact rfl)|(apply thenQ_r)|(apply blockQ_r)|(apply OK_condT;exact rfl)|(apply OK_condF;exact rfl)|(apply OK_skip)|(apply OK_exit)|(apply OK_ret)|(apply OKx_move;(conv=>lhs;whnf)<;>exact rfl)|(apply OKx_assign;(conv=>lhs;whnf)<;>exact rfl)|(apply OKx_ldB;exact rfl;(first | exact at0|exact at1|exact at2|exact at3|exact at4|exact at5|exact at6|exact at7);exact rfl)|(apply OKx_ldR;(conv=>lhs;whnf)<;>exact rfl;(with_reducible assumption))|(apply OKx_sneq;exact rfl;exact rfl; all_goals intro _)|(apply OKx_notT;exact rfl)|(apply OKx_notF;exact rfl)|(apply OKx_extract;exact rfl;(conv=>lhs;whnf)<;>exact rfl)|(apply OKx_stB;exact rfl;(conv=>lhs;whnf)<;>exact rfl;exact rfl;exact rfl;(first | exact at0|exact at1|exact at2|exact at3|exact at4|exact at5|exact at6|exact at7);exact rfl;exact rfl;exact rfl))
      first | refine bodyQ_r0 ?_ | refine bodyQ_n0 ?_
      subst hR
      exact ⟨_, Ent.sub (List.sublist_cons_self _ _), .inr ⟨cc, J2, hJ2, rfl⟩⟩
  · rw [e] at hcut
    rw [linW_hit a b hno] at hpre
    rw [List.length_append, List.length_cons] at hm'
    have hspl := fun w1 (hb : Below w0.heap.size w0 w1) => split_sat (bOf a) w1 (hm.below hb) (by rw [bOf_size];omega)
    rw [data_bOf] at hspl
    repeat' (first|(refine OK_regionY (id := 5) 0 [_, _] [_] rfl rfl ?_)|(apply OK_seq)|(apply thenQ_n)|(apply OK_region)|(apply OKx_gn; apply OKx_sneq;exact rfl;exact rfl; all_goals (intro hs; first | exact absurd hs hne | skip))|(apply OKx_gc 67;exact rfl; refine OKx_callV (f := 67) rfl rfl rfl (fun w1 hp => hcut w1 hp.below) ?_)|(apply OKx_gc 68;exact rfl; refine OKx_call (f := 68) rfl rfl (fun w1 hp => hspl w1 hp.below) ?_; rintro _ _ ⟨gw, rfl, rfl⟩; rw [List.cons_append, List.nil_append])|(apply OKx_nilK)|(apply OK_block)|(apply blockQ_n)|(apply blockQ_s)|(apply thenQ_e)|(apply blockQ_e;exact rfl)|(apply thenQ_r)|(apply blockQ_r)|(apply OK_condT;exact rfl)|(apply OK_condF;exact rfl)|(apply OK_skip)|(apply OK_exit)|(apply OK_ret)|(apply OKx_move;(conv=>lhs;whnf)<;>exact rfl)|(apply OKx_assign;(conv=>lhs;whnf)<;>exact rfl)|(apply OKx_ldB;exact rfl;(first | exact at0|exact at1|exact at2|exact at3|exact at4|exact at5|exact at6|exact at7);exact rfl)|(apply OKx_ldR;(conv=>lhs;whnf)<;>exact rfl;(with_reducible assumption))|(apply OKx_sneq;exact rfl;exact rfl; all_goals intro _)|(apply OKx_notT;exact rfl)|(apply OKx_notF;exact rfl)|(apply OKx_extract;exact rfl;(conv=>lhs;whnf)<;>exact rfl)|(apply OKx_stB;exact rfl;(conv=>lhs;whnf)<;>exact rfl;exact rfl;exact rfl;(first | exact at0|exact at1|exact at2|exact at3|exact at4|exact at5|exact at6|exact at7);exact rfl;exact rfl;exact rfl))
    have hyy := hy (a ++ 10 :: b) (.slice (some ⟨gw, 0, none⟩) (wrd a).length (wrd a).length) (wrd a) pre J' (.inr ⟨gw, rfl⟩) hJ' ⟨linW b, by rw [List.append_assoc]; exact hpre⟩
    refine ⟨y, [.slice (some ⟨gw, 0, none⟩) (wrd a).length (wrd a).length], _, (by ((conv=>lhs;whnf)<;>exact rfl)), (by ((conv=>lhs;whnf)<;>exact rfl)), fun w hp => hyy w hp, ?_⟩
    rintro _ _ (⟨rfl, J2, hJ2, rfl⟩ | ⟨rfl, cc, J2, hJ2, rfl⟩)
    · rw [List.cons_append]
      unfold zL
      repeat' (first|(apply OK_seq)|(apply thenQ_n)|(apply OK_region)|(apply OKx_nilK)|(apply OK_block)|(apply blockQ_n)|(apply blockQ_s)|(apply thenQ_e)|(apply blockQ_e;exact rfl)|(apply thenQ_r)|(apply blockQ_r)|(apply OK_condT;exact rfl)|(apply OK_condF;exact rfl)|(apply OK_skip)|(apply OK_exit)|(apply OK_ret)|(apply OKx_move;(conv=>lhs;whnf)<;>exact rfl)|(apply OKx_assign;(conv=>lhs;whnf)<;>exact rfl)|(apply OKx_ldB;exact rfl;(first | exact at0|exact at1|exact at2|exact at3|exact at4|exact at5|exact at6|exact at7);exact rfl)|(apply OKx_ldR;(conv=>lhs;whnf)<;>exact rfl;(with_reducible assumption))|(apply OKx_sneq;exact rfl;exact rfl; all_goals intro _)|(apply OKx_notT;exact rfl)|(apply OKx_notF;exact rfl)|(apply OKx_extract;exact rfl;(conv=>lhs;whnf)<;>exact rfl)|(apply OKx_stB;exact rfl;(conv=>lhs;whnf)<;>exact rfl;exact rfl;exact rfl;(first | exact at0|exact at1|exact at2|exact at3|exact at4|exact at5|exact at6|exact at7);exact rfl;exact rfl;exact rfl))
      refine ⟨by (repeat' (first | refine agree_upd rfl ?_ | exact agree_over | exact agree_refl _ _ | refine agree_over2 rfl ?_)), b.length, _, by omega, Ent.refl _ _, ?_⟩
      exact ⟨b, pre ++ [wrd a], J2, rfl, by omega, by rw [List.append_assoc]; exact hpre, hJ2, rfl⟩
    · rw [List.cons_append]
      unfold zL
      repeat' (first|(apply OK_seq)|(apply thenQ_n)|(apply OK_region)|(apply OKx_nilK)|(apply OK_block)|(apply blockQ_n)|(apply blockQ_s)|(apply thenQ_e)|(apply blockQ_e;exact rfl)|(apply thenQ_r)|(apply blockQ_r)|(apply OK_condT;exact rfl)|(apply OK_condF;exact rfl)|(apply OK_skip)|(apply OK_exit)|(apply OK_ret)|(apply OKx_move;(conv=>lhs;whnf)<;>exact rfl)|(apply OKx_assign;(conv=>lhs;whnf)<;>exact rfl)|(apply OKx_ldB;exact rfl;(first | exact at0|exact at1|exact at2|exact at3|exact at4|exact at5|exact at6|exact at7);exact rfl)|(apply OKx_ldR;(conv=>lhs;whnf)<;>exact rfl;(with_reducible assumption))|(apply OKx_sneq;exact rfl;exact rfl; all_goals intro _)|(apply OKx_notT;exact rfl)|(apply OKx_notF;exact rfl)|(apply OKx_extract;exact rfl;(conv=>lhs;whnf)<;>exact rfl)|(apply OKx_stB;exact rfl;(conv=>lhs;whnf)<;>exact rfl;exact rfl;exact rfl;(first | exact at0|exact at1|exact at2|exact at3|exact at4|exact at5|exact at6|exact at7);exact rfl;exact rfl;exact rfl))
      first | refine bodyQ_r0 ?_ | refine bodyQ_n0 ?_
      subst hR
      exact ⟨_, Ent.sub (List.sublist_cons_self _ _), .inr ⟨cc, J2, hJ2, rfl⟩⟩
end Go.Proofs.YtpfemholpigdeaaDoor
namespace Go.Proofs.YtpfemholpigdeaaDoor
open Go.RowKit
theorem stCheck_at (s : Stem) (k : Nat) (h0 : s.names.length ≠ 0) (h64 : ¬ 64 < s.names.length) (he : s.ext.length = s.names.length) (hp : s.par.length = s.names.length)
    (hk : k < s.names.length) (hf : firstErr (stAt s) k = 0) (e : Int) (hs : stAt s k = e) (hne : e ≠ 0) : stCheck s = e := by
  rw [stCheck, if_neg h0, if_neg h64, if_neg (by omega), firstErr_hit _ k _ hf (by rw [hs]; exact hne) hk, hs]
theorem stCheck_ok (s : Stem) (h0 : s.names.length ≠ 0) (h64 : ¬ 64 < s.names.length) (he : s.ext.length = s.names.length) (hp : s.par.length = s.names.length)
    (hf : firstErr (stAt s) s.names.length = 0) : stCheck s = 0 := by
  rw [stCheck, if_neg h0, if_neg h64, if_neg (by omega), hf]
set_option maxRecDepth 100000 in
set_option maxHeartbeats 4000000 in
theorem stCheck_any (v : Value) (s : Stem) (w : World) (h : Stm w v s) :
    Calls Tryd.prog 13 #[v] w fun e w' => e = .returned (.int .i64 (stCheck s)) ∧ Hp w.heap.size w w' [] := by
  obtain ⟨nv, ev, pv, rfl, hS, hE, hP⟩ := h
  obtain ⟨na, ncap, rfl, hnl, hN⟩ := hS.at
  obtain ⟨ea, ecap, rfl, hel, hE'⟩ := hE.at
  obtain ⟨pa, pcap, rfl, hpl, hP'⟩ := hP.at
  have hroom := hS.1.room _ _ _ rfl
  have HS := Lib.hid hS; clear hS
  have HN := Lib.hid hN; clear hN
  have HP := Lib.hid hP'; clear hP' hE' hE hP
  have hp0 := (Hp.refl w).box 26 #[.slice na s.names.length ncap, .slice ea s.ext.length ecap, .slice pa s.par.length pcap]
  by_cases h0 : s.names.length = 0
  · have e : stCheck s = 5 := by rw [stCheck, if_pos h0]
    have HE := Lib.hid e; clear e
    have hc : ((s.names.length : Int) == 0) = true := by rw [beq_iff_eq];omega
    have H0 := Lib.hid h0; clear h0
    go_enter Tryd.func13, Tryd.ntmps13
    go_wp2_with fail
    go_ret
    exact ⟨ret_int HE.out.symm, hp0.none⟩
  have hc : ((s.names.length : Int) == 0) = false := by rw [beq_eq_false_iff_ne];omega
  by_cases h64 : 64 < s.names.length
  · have e : stCheck s = 4 := by rw [stCheck, if_neg h0, if_pos h64]
    have HE := Lib.hid e; clear e
    go_enter Tryd.func13, Tryd.ntmps13
    go_wp2_with fail
    go_ret
    exact ⟨ret_int HE.out.symm, hp0.none⟩
  by_cases he : s.ext.length = s.names.length
  case neg =>
    have e : stCheck s = 9 := by rw [stCheck, if_neg h0, if_neg h64, if_pos (.inl he)]
    have HE := Lib.hid e; clear e
    have hc2 : ((s.ext.length : Int) != s.names.length) = true := by rw [bne_iff_ne];omega
    go_enter Tryd.func13, Tryd.ntmps13
    go_wp2_with fail
    go_ret
    exact ⟨ret_int HE.out.symm, hp0.none⟩
  by_cases hpp : s.par.length = s.names.length
  case neg =>
    have e : stCheck s = 9 := by rw [stCheck, if_neg h0, if_neg h64, if_pos (.inr hpp)]
    have HE := Lib.hid e; clear e
    have hc2 : ((s.ext.length : Int) != s.names.length) = false := by rw [bne_eq_false_iff_eq];omega
    have hc3 : ((s.par.length : Int) != s.names.length) = true := by rw [bne_iff_ne];omega
    have HH := Lib.hid he; clear he
    go_enter Tryd.func13, Tryd.ntmps13
    go_wp2_with fail
    go_ret
    exact ⟨ret_int HE.out.symm, hp0.none⟩
  have hc2 : ((s.ext.length : Int) != s.names.length) = false := by rw [bne_eq_false_iff_eq];omega
  have hc3 : ((s.par.length : Int) != s.names.length) = false := by rw [bne_eq_false_iff_eq];omega
  have HAT := Lib.hid (stCheck_at s · h0 h64 he hpp)
  have HOK := Lib.hid (stCheck_ok s h0 h64 he hpp)
  have HHE := Lib.hid he; clear he
  have HHP := Lib.hid hpp; clear hpp
  go_enter Tryd.func13, Tryd.ntmps13
  go_wp2_with fail
  go_loopw [32] (fun i wr => ∃ k : Nat, k ≤ s.names.length ∧ i = .int .i64 k ∧ Hid (firstErr (stAt s) k = 0) ∧
      Hp w.heap.size w wr [.box 26 w.heap.size [.slice na s.names.length ncap, .slice ea s.ext.length ecap, .slice pa s.par.length pcap]]) (fun i _ => s.names.length - (intOf i).toNat)
  case atStart => exact ⟨0, by omega, rfl, rfl, hp0⟩
  case round =>
    clear hp0
    obtain ⟨k, hk, rfl, hf, hp⟩ := hrel
    by_cases hlt : k < s.names.length
    · obtain ⟨bc, bf, bb, bl⟩ := hp.boxAt 0 rfl
      have b0 := bc 0
      have b2 := bc 2
      clear bc bf
      obtain ⟨hsz, nb, noff, rfl, hcell⟩ := HN.out k hlt
      have hcell := (hp.below.cell (World.block_lt_of_cell? w _ hcell)).trans hcell
      have hkp : k < s.par.length := by rw [HHP.out]; exact hlt
      obtain ⟨pb, poff, u, rfl, hpc, hpi⟩ := HP.out k hkp
      have hp1 := hp.box 3 #[.int .i64 k]
      have HPC := Lib.hid hpc
      have hpc := (hp1.below.cell (World.block_lt_of_cell? w _ hpc)).trans hpc
      obtain ⟨ra, rcap, rfl, hrl, hr⟩ := hpi.at
      have HPI := Lib.hid hpi; clear hpi
      have HR := Lib.hid hr; clear hr
      have hst : stAt s k = if leafNm s.names[k] = false then 14 else if Lib.containsS (s.names.take k) s.names[k] = true then 7 else if rngB s.par[k] k = true then 2 else if incB s.par[k] = false then 10 else 0 := by
        rw [stAt]; simp [hlt, hkp]
      have HST := Lib.hid hst; clear hst
      generalize hnm : s.names[k] = nm at *
      generalize hpk : s.par[k] = pk at *
      have HX1 := Lib.hid hnm; clear hnm
      have HX2 := Lib.hid hpk; clear hpk
      have HIB := Lib.hid ((hp1.boxAt 0 rfl).1 0)
      go_wp2_with fail
      refine (leafName_any nm _ hsz).mono ?_
      rintro e w1 ⟨rfl, rfl⟩
      cases hb : leafNm nm with
      | false =>
        go_wp2_with fail
        go_ret
        exact ⟨ret_int (HAT.out k hlt hf.out 14 (by rw [HST.out, if_pos hb]) (by decide)).symm, hp1.none⟩
      | true =>
        go_wp2_with fail
        refine (contains_str _ (s.names.take k) nm _ ((HS.out.take k _ hk (by omega)).below hp1.below)).mono ?_
        rintro e w1 ⟨rfl, rfl⟩
        cases hb2 : Lib.containsS (s.names.take k) nm with
        | true =>
          go_wp2_with fail
          go_ret
          exact ⟨ret_int (HAT.out k hlt hf.out 7 (by rw [HST.out, if_neg (by rw [hb]; simp), if_pos hb2]) (by decide)).symm, hp1.none⟩
        | false =>
          have HB := Lib.hid hb; clear hb
          have HB2 := Lib.hid hb2; clear hb2
          go_wp2_with fail
          refine (range_any _ pk k _ _ (HPI.out.below hp1.below) HIB.out).mono ?_
          rintro e w2 ⟨rfl, hq⟩
          have hp2 := hp1.quiet hq
          cases hb3 : rngB pk k with
          | true =>
            go_wp2_with fail
            go_ret
            exact ⟨ret_int (HAT.out k hlt hf.out 2 (by rw [HST.out, if_neg (by rw [HB.out]; simp), if_neg (by rw [HB2.out]; simp), if_pos hb3]) (by decide)).symm, hp2.none⟩
          | false =>
            have HB3 := Lib.hid hb3; clear hb3
            go_wp2_with fail
            obtain ⟨wo, rfl⟩ : ∃ wo : World, wo = wr := ⟨_, rfl⟩
            go_loopw [6] (fun i wi => ∃ j : Nat, 1 ≤ j ∧ i = .int .i64 j ∧ Hid (∀ m, 1 ≤ m → m < j → (hm : m < pk.length) → pk[m - 1]'(by omega) < pk[m]) ∧
                Hp w.heap.size w wi [.box 3 wo.heap.size [.int .i64 k], .box 26 w.heap.size [.slice (some ⟨nb, noff, none⟩) s.names.length ncap, .slice ea s.ext.length ecap, .slice (some ⟨pb, poff, none⟩) s.par.length pcap]]) (fun i _ => pk.length - (intOf i).toNat)
            case atStart => exact ⟨1, by omega, rfl, fun m h1 h2 => absurd h2 (by omega), hp2⟩
            case round =>
              clear hp2 hp1 hp hcell hpc
              obtain ⟨j, hj1, rfl, hinc, hp3⟩ := hrel
              obtain ⟨ic, icf, _, _⟩ := hp3.boxAt 0 rfl
              obtain ⟨bc, bcf, _, _⟩ := hp3.boxAt 1 rfl
              have c0 := ic 0
              have c2 := bc 2
              clear ic icf bc bcf
              have pc := (hp3.below.cell (World.block_lt_of_cell? w _ HPC.out)).trans HPC.out
              by_cases hjl : j < pk.length
              · obtain ⟨rb, roff, rfl, r0⟩ := HR.out j hjl
                obtain ⟨rb', roff', hra, r1⟩ := HR.out (j - 1) (by omega)
                simp only [Option.some.injEq, Addr.mk.injEq, and_true] at hra
                obtain ⟨rfl, rfl⟩ := hra
                have r0 := (hp3.below.cell (World.block_lt_of_cell? w _ r0)).trans r0
                have r1 := (hp3.below.cell (World.block_lt_of_cell? w _ r1)).trans r1
                by_cases hle : pk[j] ≤ pk[j - 1]
                · have hno := incB_not pk j hj1 hjl hle
                  have HNO := Lib.hid hno; clear hno
                  generalize pk[j] = pj at *
                  generalize pk[j - 1] = pj1 at *
                  go_wp2_with fail
                  go_quiet (fail)
                  go_wp2_with fail
                  go_ret
                  exact ⟨ret_int (HAT.out k hlt hf.out 10 (by rw [HST.out, if_neg (by rw [HB.out]; simp), if_neg (by rw [HB2.out]; simp), if_neg (by rw [HB3.out]; simp), if_pos HNO.out]) (by decide)).symm, (hp3.drewN _).none⟩
                · have HLT := Lib.hid (Int.not_le.1 hle)
                  go_wp2_with fail
                  go_quiet (fail)
                  go_wp2_with fail
                  go_roundw
                  case rel =>
                    refine ⟨j + 1, by omega, by go_num, fun m h1 h2 hm => ?_, hp3.drewN _⟩
                    rcases Nat.lt_or_ge m j with h3 | h3
                    · exact hinc.out m h1 h3 hm
                    · obtain rfl : m = j := by omega
                      exact HLT.out
                  case measure => simp [intOf];omega
              · have hinc2 := incB_of pk (fun m h1 hm => hinc.out m h1 (by omega) hm)
                have HI2 := Lib.hid hinc2; clear hinc2
                go_wp2_with fail
                go_roundw
                case rel =>
                  exact ⟨k + 1, by omega, by go_num, firstErr_step _ _ hf.out (by rw [HST.out, if_neg (by rw [HB.out]; simp), if_neg (by rw [HB2.out]; simp), if_neg (by rw [HB3.out]; simp), if_neg (by rw [HI2.out]; simp)]), hp3.drop1⟩
                case measure => simp [intOf];omega
    · obtain rfl : k = s.names.length := by omega
      go_wp2_with fail
      go_ret
      exact ⟨ret_int (HOK.out hf.out).symm, hp.none⟩
end Go.Proofs.YtpfemholpigdeaaDoor
namespace Go.Proofs.YtpfemholpigdeaaDoor
open Go.RowKit
theorem least {p : Nat → Prop} : ∀ j, p j → ∃ i, i ≤ j ∧ p i ∧ ∀ m, m < i → ¬ p m := by
  intro j
  induction j using Nat.strongRecOn with
  | ind j ih =>
    intro hj
    by_cases h : ∃ m, m < j ∧ p m
    · obtain ⟨m, hm, hpm⟩ := h
      obtain ⟨i, hi, h1, h2⟩ := ih m hm hpm
      exact ⟨i, by omega, h1, h2⟩
    · exact ⟨j, Nat.le_refl _, hj, fun m hm hpm => h ⟨m, hm, hpm⟩⟩
theorem place_ne (xs : List ByteArray) (k : Nat) (hk : k < xs.length) : (Lib.idxOfS xs xs[k] != (k : Int)) = Lib.containsS (xs.take k) xs[k] := by
  rw [Bool.eq_iff_iff, bne_iff_ne, Lib.containsS_iff]
  have hg : xs.getD k ByteArray.empty = xs[k] := by simp [hk]
  constructor
  · intro h
    by_cases hm : xs[k] ∈ xs.take k
    · exact hm
    · exfalso
      apply h
      have := Lib.idxOfS_hit xs xs.length k xs[k] hk (Nat.le_refl _) hg (fun j hj e => hm ?_)
      · rw [List.take_length] at this; exact this
      · have hj2 : j < xs.length := by omega
        rw [show xs.getD j ByteArray.empty = xs[j] from by simp [hj2]] at e
        rw [← e]
        exact List.mem_take_iff_getElem.2 ⟨j, by omega, rfl⟩
  · intro hm h
    obtain ⟨j, hj, e⟩ := List.mem_take_iff_getElem.1 hm
    -- the first place is at most j
    have hjk : j < k := by omega
    have hfirst : ∃ i, i ≤ j ∧ xs.getD i ByteArray.empty = xs[k] ∧ ∀ m, m < i → xs.getD m ByteArray.empty ≠ xs[k] := by
      exact least (p := fun i => xs.getD i ByteArray.empty = xs[k]) j (by rw [show xs.getD j ByteArray.empty = xs[j]'(by omega) from by simp [show j < xs.length by omega]]; exact e)
    obtain ⟨i, hi, h1, h2⟩ := hfirst
    have := Lib.idxOfS_hit xs xs.length i xs[k] (by omega) (Nat.le_refl _) h1 h2
    rw [List.take_length] at this
    omega
set_option maxRecDepth 100000 in
set_option maxHeartbeats 4000000 in
theorem rstCheck_any (v : Value) (s : Stem) (w : World) (h : Stm w v s) :
    Calls Tryd.prog 47 #[v] w fun e w' => e = .returned (.int .i64 (stCheck s)) ∧ Hp w.heap.size w w' [] := by
  obtain ⟨nv, ev, pv, rfl, hS, hE, hP⟩ := h
  obtain ⟨na, ncap, rfl, hnl, hN⟩ := hS.at
  obtain ⟨ea, ecap, rfl, hel, hE'⟩ := hE.at
  obtain ⟨pa, pcap, rfl, hpl, hP'⟩ := hP.at
  have HS := Lib.hid hS; clear hS
  have HN := Lib.hid hN; clear hN
  have HP := Lib.hid hP'; clear hP' hE' hE hP
  have hp0 := (Hp.refl w).box 26 #[.slice na s.names.length ncap, .slice ea s.ext.length ecap, .slice pa s.par.length pcap]
  by_cases h0 : s.names.length = 0
  · have e : stCheck s = 5 := by rw [stCheck, if_pos h0]
    have HE := Lib.hid e; clear e
    have hc : ((s.names.length : Int) == 0) = true := by rw [beq_iff_eq];omega
    have H0 := Lib.hid h0; clear h0
    go_enter Tryd.func47, Tryd.ntmps47
    go_wp2_with fail
    go_ret
    exact ⟨ret_int HE.out.symm, hp0.none⟩
  have hc : ((s.names.length : Int) == 0) = false := by rw [beq_eq_false_iff_ne];omega
  by_cases h64 : 64 < s.names.length
  · have e : stCheck s = 4 := by rw [stCheck, if_neg h0, if_pos h64]
    have HE := Lib.hid e; clear e
    go_enter Tryd.func47, Tryd.ntmps47
    go_wp2_with fail
    go_ret
    exact ⟨ret_int HE.out.symm, hp0.none⟩
  by_cases he : s.ext.length = s.names.length
  case neg =>
    have e : stCheck s = 9 := by rw [stCheck, if_neg h0, if_neg h64, if_pos (.inl he)]
    have HE := Lib.hid e; clear e
    have hc2 : ((s.ext.length : Int) != s.names.length) = true := by rw [bne_iff_ne];omega
    go_enter Tryd.func47, Tryd.ntmps47
    go_wp2_with fail
    go_ret
    exact ⟨ret_int HE.out.symm, hp0.none⟩
  by_cases hpp : s.par.length = s.names.length
  case neg =>
    have e : stCheck s = 9 := by rw [stCheck, if_neg h0, if_neg h64, if_pos (.inr hpp)]
    have HE := Lib.hid e; clear e
    have hc2 : ((s.ext.length : Int) != s.names.length) = false := by rw [bne_eq_false_iff_eq];omega
    have hc3 : ((s.par.length : Int) != s.names.length) = true := by rw [bne_iff_ne];omega
    have HH := Lib.hid he; clear he
    go_enter Tryd.func47, Tryd.ntmps47
    go_wp2_with fail
    go_ret
    exact ⟨ret_int HE.out.symm, hp0.none⟩
  have hc2 : ((s.ext.length : Int) != s.names.length) = false := by rw [bne_eq_false_iff_eq];omega
  have hc3 : ((s.par.length : Int) != s.names.length) = false := by rw [bne_eq_false_iff_eq];omega
  have HAT := Lib.hid (stCheck_at s · h0 h64 he hpp)
  have HOK := Lib.hid (stCheck_ok s h0 h64 he hpp)
  have HHE := Lib.hid he; clear he
  have HHP := Lib.hid hpp; clear hpp
  go_enter Tryd.func47, Tryd.ntmps47
  go_wp2_with fail
  go_loopw [4] (fun i wr => ∃ k : Nat, k ≤ s.names.length ∧ i = .int .i64 k ∧ Hid (firstErr (stAt s) k = 0) ∧
      Hp w.heap.size w wr [.box 26 w.heap.size [.slice na s.names.length ncap, .slice ea s.ext.length ecap, .slice pa s.par.length pcap]]) (fun i _ => s.names.length - (intOf i).toNat)
  case atStart => exact ⟨0, by omega, rfl, rfl, hp0⟩
  case round =>
    clear hp0
    obtain ⟨k, hk, rfl, hf, hp⟩ := hrel
    by_cases hlt : k < s.names.length
    · obtain ⟨bc, bf, bb, bl⟩ := hp.boxAt 0 rfl
      have b0 := bc 0
      have b2 := bc 2
      clear bc bf
      obtain ⟨hsz, nb, noff, rfl, hcell⟩ := HN.out k hlt
      have HNC := Lib.hid hcell
      have hcell := (hp.below.cell (World.block_lt_of_cell? w _ hcell)).trans hcell
      have hkp : k < s.par.length := by rw [HHP.out]; exact hlt
      obtain ⟨pb, poff, u, rfl, hpc, hpi⟩ := HP.out k hkp
      have HPC := Lib.hid hpc; clear hpc
      obtain ⟨ra, rcap, rfl, hrl, hr⟩ := hpi.at
      have HPI := Lib.hid hpi; clear hpi
      have HR := Lib.hid hr; clear hr
      have hst : stAt s k = if leafNm s.names[k] = false then 14 else if Lib.containsS (s.names.take k) s.names[k] = true then 7 else if rngB s.par[k] k = true then 2 else if incB s.par[k] = false then 10 else 0 := by
        rw [stAt]; simp [hlt, hkp]
      have HST := Lib.hid hst; clear hst
      have HPL := Lib.hid (place_ne s.names k hlt)
      generalize hnm : s.names[k] = nm at *
      generalize hpk : s.par[k] = pk at *
      have HX1 := Lib.hid hnm; clear hnm
      have HX2 := Lib.hid hpk; clear hpk
      go_wp2_with fail
      refine (named_any nm _ hsz).mono ?_
      rintro e w1 ⟨rfl, hq1⟩
      have hp1 : Hp w.heap.size w w1 _ := hp.call hq1
      clear hp hcell b0 b2
      cases hb : leafNm nm with
      | false =>
        go_wp2_with fail
        go_ret
        exact ⟨ret_int (HAT.out k hlt hf.out 14 (by rw [HST.out, if_pos hb]) (by decide)).symm, hp1.none⟩
      | true =>
        have HB := Lib.hid hb; clear hb
        obtain ⟨bc, bf, _, _⟩ := hp1.boxAt 0 rfl
        have b0 := bc 0
        have b2 := bc 2
        clear bc bf
        have hcell := (hp1.below.cell (World.block_lt_of_cell? w _ HNC.out)).trans HNC.out
        have hpc := (hp1.below.cell (World.block_lt_of_cell? w _ HPC.out)).trans HPC.out
        have hS1 := HS.out.below hp1.below
        have HS1 := Lib.hid hS1; clear hS1
        cases hb2 : Lib.containsS (s.names.take k) nm with
        | true =>
          have hpl' : (Lib.idxOfS s.names nm != (k : Int)) = true := HPL.out.trans hb2
          have HB2 := Lib.hid hb2; clear hb2
          go_wp2_with fail
          go_quiet ((go_at_call 75; exact Calls.quiet_of_same ((place_any _ _ _ _ (HS1.out.below (Quiet.below ⟨_, rfl⟩))).mono fun e w' ⟨h1, h2⟩ => ⟨h1, h2.symm⟩)))
          go_wp2_with fail
          go_ret
          exact ⟨ret_int (HAT.out k hlt hf.out 7 (by rw [HST.out, if_neg (by rw [HB.out]; simp), if_pos HB2.out]) (by decide)).symm, (hp1.drewN _).none⟩
        | false =>
          have hpl' : (Lib.idxOfS s.names nm != (k : Int)) = false := HPL.out.trans hb2
          have HB2 := Lib.hid hb2; clear hb2
          go_wp2_with fail
          go_quiet ((go_at_call 75; exact Calls.quiet_of_same ((place_any _ _ _ _ (HS1.out.below (Quiet.below ⟨_, rfl⟩))).mono fun e w' ⟨h1, h2⟩ => ⟨h1, h2.symm⟩)))
          go_wp2_with fail
          obtain ⟨wo, rfl⟩ : ∃ wo : World, wo = wr := ⟨_, rfl⟩
          go_loopw [5] (fun i wi => ∃ j : Nat, j ≤ pk.length ∧ i = .int .i64 j ∧ Hid (∀ m, m < j → (hm : m < pk.length) → (decide (pk[m] < 0) || decide ((k : Int) ≤ pk[m])) = false) ∧
              Hp w.heap.size w wi [.box 26 w.heap.size [.slice (some ⟨nb, noff, none⟩) s.names.length ncap, .slice ea s.ext.length ecap, .slice (some ⟨pb, poff, none⟩) s.par.length pcap]]) (fun i _ => pk.length - (intOf i).toNat)
          case atStart => exact ⟨0, by omega, rfl, fun m h1 => absurd h1 (by omega), hp1.drewN _⟩
          case round =>
            clear hp1 hcell hpc b0 b2
            obtain ⟨j, hjn, rfl, hno, hp3⟩ := hrel
            obtain ⟨bc, bcf, _, _⟩ := hp3.boxAt 0 rfl
            have c2 := bc 2
            clear bc bcf
            have pc := (hp3.below.cell (World.block_lt_of_cell? w _ HPC.out)).trans HPC.out
            by_cases hjl : j < pk.length
            · obtain ⟨rb, roff, rfl, r0⟩ := HR.out j hjl
              have r0 := (hp3.below.cell (World.block_lt_of_cell? w _ r0)).trans r0
              cases hbad : (decide (pk[j] < 0) || decide ((k : Int) ≤ pk[j])) with
              | true =>
                have hany : rngB pk k = true := List.any_eq_true.2 ⟨pk[j], List.getElem_mem hjl, hbad⟩
                have HANY := Lib.hid hany; clear hany
                generalize pk[j] = pj at *
                by_cases h1 : pj < 0
                · go_wp2_with fail
                  go_ret
                  exact ⟨ret_int (HAT.out k hlt hf.out 2 (by rw [HST.out, if_neg (by rw [HB.out]; simp), if_neg (by rw [HB2.out]; simp), if_pos HANY.out]) (by decide)).symm, hp3.none⟩
                · have h2 : (k : Int) ≤ pj := by simpa [h1] using hbad
                  clear hbad
                  go_wp2_with fail
                  go_ret
                  exact ⟨ret_int (HAT.out k hlt hf.out 2 (by rw [HST.out, if_neg (by rw [HB.out]; simp), if_neg (by rw [HB2.out]; simp), if_pos HANY.out]) (by decide)).symm, hp3.none⟩
              | false =>
                have HBAD := Lib.hid hbad
                have h12 : ¬ pk[j] < 0 ∧ ¬ (k : Int) ≤ pk[j] := by simpa using hbad
                obtain ⟨h1, h2⟩ := h12
                clear hbad
                go_wp2_with fail
                go_roundw
                case rel =>
                  refine ⟨j + 1, by omega, by go_num, fun m h1 hm => ?_, hp3⟩
                  rcases Nat.lt_or_ge m j with h3 | h3
                  · exact hno.out m h3 hm
                  · obtain rfl : m = j := by omega
                    exact HBAD.out
                case measure => simp [intOf];omega
            · have hb3 : rngB pk k = false := by
                rw [rngB, List.any_eq_false]
                intro x hx
                obtain ⟨m, hm, rfl⟩ := List.getElem_of_mem hx
                rw [hno.out m (by omega) hm]; simp
              have HB3 := Lib.hid hb3; clear hb3
              go_wp2_with fail
              go_loopw [6] (fun i wi => ∃ j : Nat, 1 ≤ j ∧ i = .int .i64 j ∧ Hid (∀ m, 1 ≤ m → m < j → (hm : m < pk.length) → pk[m - 1]'(by omega) < pk[m]) ∧
                  Hp w.heap.size w wi [.box 26 w.heap.size [.slice (some ⟨nb, noff, none⟩) s.names.length ncap, .slice ea s.ext.length ecap, .slice (some ⟨pb, poff, none⟩) s.par.length pcap]]) (fun i _ => pk.length - (intOf i).toNat)
              case atStart => exact ⟨1, by omega, rfl, fun m h1 h2 => absurd h2 (by omega), hp3⟩
              case round =>
                clear hp3 c2 pc
                obtain ⟨j, hj1, rfl, hinc, hp3⟩ := hrel
                obtain ⟨bc, bcf, _, _⟩ := hp3.boxAt 0 rfl
                have c2 := bc 2
                clear bc bcf
                have pc := (hp3.below.cell (World.block_lt_of_cell? w _ HPC.out)).trans HPC.out
                by_cases hjl : j < pk.length
                · obtain ⟨rb, roff, rfl, r0⟩ := HR.out j hjl
                  obtain ⟨rb', roff', hra, r1⟩ := HR.out (j - 1) (by omega)
                  simp only [Option.some.injEq, Addr.mk.injEq, and_true] at hra
                  obtain ⟨rfl, rfl⟩ := hra
                  have r0 := (hp3.below.cell (World.block_lt_of_cell? w _ r0)).trans r0
                  have r1 := (hp3.below.cell (World.block_lt_of_cell? w _ r1)).trans r1
                  by_cases hle : pk[j] ≤ pk[j - 1]
                  · have hno := incB_not pk j hj1 hjl hle
                    have HNO := Lib.hid hno; clear hno
                    generalize pk[j] = pj at *
                    generalize pk[j - 1] = pj1 at *
                    go_wp2_with fail
                    go_quiet (fail)
                    go_wp2_with fail
                    go_ret
                    exact ⟨ret_int (HAT.out k hlt hf.out 10 (by rw [HST.out, if_neg (by rw [HB.out]; simp), if_neg (by rw [HB2.out]; simp), if_neg (by rw [HB3.out]; simp), if_pos HNO.out]) (by decide)).symm, (hp3.drewN _).none⟩
                  · have HLT := Lib.hid (Int.not_le.1 hle)
                    go_wp2_with fail
                    go_quiet (fail)
                    go_wp2_with fail
                    go_roundw
                    case rel =>
                      refine ⟨j + 1, by omega, by go_num, fun m h1 h2 hm => ?_, hp3.drewN _⟩
                      rcases Nat.lt_or_ge m j with h3 | h3
                      · exact hinc.out m h1 h3 hm
                      · obtain rfl : m = j := by omega
                        exact HLT.out
                    case measure => simp [intOf];omega
                · have hinc2 := incB_of pk (fun m h1 hm => hinc.out m h1 (by omega) hm)
                  have HI2 := Lib.hid hinc2; clear hinc2
                  go_wp2_with fail
                  go_roundw
                  case rel =>
                    exact ⟨k + 1, by omega, by go_num, firstErr_step _ _ hf.out (by rw [HST.out, if_neg (by rw [HB.out]; simp), if_neg (by rw [HB2.out]; simp), if_neg (by rw [HB3.out]; simp), if_neg (by rw [HI2.out]; simp)]), hp3⟩
                  case measure => simp [intOf];omega
    · obtain rfl : k = s.names.length := by omega
      go_wp2_with fail
      go_ret
      exact ⟨ret_int (HOK.out hf.out).symm, hp.none⟩
end Go.Proofs.YtpfemholpigdeaaDoor
namespace Go.Proofs.YtpfemholpigdeaaDoor
open Go.RowKit
set_option maxRecDepth 100000 in
set_option maxHeartbeats 4000000 in
theorem stCheck_sat (v : Value) (s : Stem) (w : World) (h : Stm w v s) : SatV Tryd.prog 13 [v] w (.int .i64 (stCheck s)) :=
  Sat.lib ⟨_, _, Tryd.func13, by kernel_rfl, rfl⟩ fun w1 hb => (stCheck_any v s w1 (h.below hb)).mono fun e w' ⟨h1, h2⟩ => ⟨_, [], h1, h2, rfl, rfl⟩
def chkI (s : Stem) (i : Int) : Int := if stCheck s ≠ 0 then 1 else if i < 0 ∨ (s.names.length : Int) ≤ i then 6 else 0
set_option maxRecDepth 100000 in
set_option maxHeartbeats 4000000 in
theorem chk36_sat (v : Value) (s : Stem) (i : Int) (w : World) (h : Stm w v s) : SatV Tryd.prog 53 [v, .int .i64 i] w (.int .i64 (chkI s i)) := by
  have hst := h
  obtain ⟨nv, ev, pv, rfl, hS, _, hP⟩ := h
  have hnv := hS.sl
  refine SatL.of 19 [4] Tryd.func53 (by kernel_rfl) (by kernel_rfl) rfl rfl rfl rfl ?_
  repeat' (first|(apply OK_seq)|(apply thenQ_n)|(apply OK_region)|(apply OKx_gc 13;exact rfl; refine OKx_callV (f := 13) rfl rfl rfl (fun w hp => stCheck_sat _ s w (hst.below hp.below)) ?_)|(apply OKx_nilK)|(apply OK_block)|(apply blockQ_n)|(apply blockQ_s)|(apply thenQ_e)|(apply blockQ_e;exact rfl)|(apply thenQ_r)|(apply blockQ_r)|(apply OK_condT;exact rfl)|(apply OK_condF;exact rfl)|(apply OK_skip)|(apply OK_exit)|(apply OK_ret)|(apply OKx_move;(conv=>lhs;whnf)<;>exact rfl)|(apply OKx_assign;(conv=>lhs;whnf)<;>exact rfl)|(apply OKx_ldB;exact rfl;(first | exact at0|exact at1|exact at2|exact at3|exact at4|exact at5|exact at6|exact at7);exact rfl)|(apply OKx_ldR;(conv=>lhs;whnf)<;>exact rfl;(with_reducible assumption))|(apply OKx_len;exact rfl)|(apply OKx_lenR;(conv=>lhs;whnf)<;>exact rfl;(with_reducible assumption))|(apply OKx_lenR2;(conv=>lhs;whnf)<;>exact rfl;(with_reducible assumption))|(apply OKx_lenO;(conv=>lhs;whnf)<;>exact rfl;(first | exact at0|exact at1|exact at2|exact at3|exact at4|exact at5|exact at6|exact at7))|(apply OKx_lss;exact rfl;exact rfl;all_goals (intro _; try (exfalso;omega)))|(apply OKx_geq;exact rfl;exact rfl;all_goals (intro _; try (exfalso;omega)))|(apply OKx_neq;exact rfl;exact rfl;all_goals (intro _; try (exfalso;omega)))|(apply OKx_fldO;exact rfl;exact rfl)|(apply OKx_fldR;(conv=>lhs;whnf)<;>exact rfl;(with_reducible assumption); decide;intro _ _)|(apply OKx_pickT;exact rfl;(conv=>lhs;whnf)<;>exact rfl)|(apply OKx_pickF;exact rfl;(conv=>lhs;whnf)<;>exact rfl)|(apply OKx_guardT;exact rfl;exact rfl)|(apply OKx_guardF;exact rfl;exact rfl)|(apply OKx_guardU;exact rfl;exact rfl)|(apply OKx_boxA;exact rfl;intro _)|(apply OKx_ldBA;exact rfl;(first | exact at0|exact at1|exact at2|exact at3|exact at4|exact at5|exact at6|exact at7);exact rfl)|(apply OKx_ldRA;(conv=>lhs;whnf)<;>exact rfl;(with_reducible assumption)))
  all_goals
    refine bodyQ_r1 (by ((conv=>lhs;whnf)<;>exact rfl)) ?_
    exact ⟨_, Ent.nil, int_eq (by unfold chkI; split <;> (try split) <;> omega), rfl⟩
theorem chkI_zero {s : Stem} {i : Int} (h : chkI s i = 0) : stCheck s = 0 ∧ 0 ≤ i ∧ i < s.names.length := by
  unfold chkI at h
  split at h
  · omega
  · split at h
    · omega
    · omega
end Go.Proofs.YtpfemholpigdeaaDoor
