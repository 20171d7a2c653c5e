/-
  Part 20 of the proof: Td37, Open. No statement of the seat is proved here.
-/
import Derived.Test.YtpfemholpigdeaaDoorMHTt3719
import Derived.ProofKit
import Derived.SizedLaws
import Derived.Deep.Strs
namespace Go.Proofs.YtpfemholpigdeaaDoor
open Go.RowKit Go.Maps
theorem pr_small {s : Stem} (hc : stCheck s = 0) (h1 : s.names.length ≤ 10) : prE s = 0 ∧ (prT s).length ≤ 65536 := by
  have h2 : (prT s).length ≤ 2000 * s.names.length := prK_len hc s.names.length (Nat.le_refl _)
  refine ⟨?_, by omega⟩
  unfold prE
  rw [if_neg (by omega), if_neg (by omega)]
theorem Rch.des {par : List (List Int)} (hok : okPar par) {b x : Nat} (h : Rch par b x) : ∀ i, des par i x → des par i b := by
  induction h with
  | here => exact fun i h => h
  | up i k h1 h2 h3 _ ih =>
    intro j hj
    have := des_lt hj
    exact ih j ((des_rec hok j k).2 (.inr ⟨by omega, (i : Int), h3, by rw [Int.toNat_natCast]; exact hj⟩))
theorem path_ends {s : Stem} {ds : List Dt} {a b : Nat} (h : dCheck s ds = 0) (hab : a < b) (hb : b < s.names.length) (hbad : bad s ds a b = true) :
    2 ≤ (pathL s.par a b).length ∧ (pathL s.par a b).getD 0 0 = (a : Int) ∧ (pathL s.par a b).getD ((pathL s.par a b).length - 1) 0 = (b : Int) ∧ hasI (dsnL s.par a s.names.length) (b : Int) = true := by
  have hs := (dCheck_zero s ds h).1
  have hlen := stCheck_len s hs
  have hok := stCheck_okPar s hs
  have hr : Rch s.par b a := by
    rw [bad, Bool.and_eq_true] at hbad
    exact (leads_iff s hs a b hb).1 hbad.2
  have hch : Chn s.par b a (pathL s.par a b) := pthR_chn s.par hok b (by omega) s.par.length a (by omega) hr
  obtain ⟨f1, f2, f3, _⟩ := hch.facts (by omega)
  refine ⟨?_, f2, f3, ?_⟩
  · rcases Nat.lt_or_ge 1 (pathL s.par a b).length with h | h
    · exact h
    · rw [show (pathL s.par a b).length - 1 = 0 by omega, f2] at f3
      omega
  · unfold hasI
    exact List.contains_iff_mem.2 ((des_mem a s.names.length b).2 ⟨hb, hab, hr.des hok a (des_self s.par a)⟩)
abbrev ty37 : ByteArray := ⟨#[120, 32, 108, 111, 115, 116, 10, 65, 32, 101, 120, 116, 97, 110, 116, 32, 102, 114, 111, 109, 32, 120, 10, 66, 32, 101, 120, 116, 97, 110, 116, 32, 102, 114, 111, 109, 32, 65, 10]⟩
theorem ty37E : psE ty37 = 0 := by decide +kernel
theorem ty37S : psS ty37 = ⟨[⟨#[120]⟩, ⟨#[65]⟩, ⟨#[66]⟩], [false, true, true], [[], [0], [1]]⟩ := by
  have h1 : (psS ty37).names = [⟨#[120]⟩, ⟨#[65]⟩, ⟨#[66]⟩] := by decide +kernel
  have h2 : (psS ty37).ext = [false, true, true] := by decide +kernel
  have h3 : (psS ty37).par = [[], [0], [1]] := by decide +kernel
  exact (show psS ty37 = ⟨(psS ty37).names, (psS ty37).ext, (psS ty37).par⟩ from rfl).trans (by rw [h1, h2, h3])
def st37 : Stem := ⟨[⟨#[120]⟩, ⟨#[65]⟩, ⟨#[66]⟩], [false, true, true], [[], [0], [1]]⟩
def da37 : List Dt := [⟨1, 1100, 1200⟩]
def db37 : List Dt := [⟨1, 1100, 1200⟩, ⟨2, 1000, 1050⟩]
theorem st37A : dCheck st37 da37 = 0 ∧ yErr st37 da37 = 0 ∧ eYrs st37 da37 = [-5000, 1100, 1100] := by decide +kernel
theorem st37B : dCheck st37 db37 = 0 ∧ bad st37 db37 0 1 = false ∧ bad st37 db37 0 2 = false ∧ bad st37 db37 1 2 = true ∧ pathL st37.par 1 2 = [1, 2] := by decide +kernel
theorem da37_bd : ∀ d ∈ da37, (-9223372036854775808 ≤ d.node ∧ d.node ≤ 9223372036854775807) ∧ (-9223372036854775808 ≤ d.fr ∧ d.fr ≤ 9223372036854775807) ∧ (-9223372036854775808 ≤ d.tl ∧ d.tl ≤ 9223372036854775807) := by
  intro d hd
  simp only [da37, List.mem_cons, List.not_mem_nil, or_false] at hd
  rcases hd with rfl
  decide
theorem db37_bd : ∀ d ∈ db37, (-9223372036854775808 ≤ d.node ∧ d.node ≤ 9223372036854775807) ∧ (-9223372036854775808 ≤ d.fr ∧ d.fr ≤ 9223372036854775807) ∧ (-9223372036854775808 ≤ d.tl ∧ d.tl ≤ 9223372036854775807) := by
  intro d hd
  simp only [db37, List.mem_cons, List.not_mem_nil, or_false] at hd
  rcases hd with rfl | rfl <;> decide
set_option maxRecDepth 100000 in
set_option maxHeartbeats 4000000 in
theorem Pa37_sat (w : World) (hm : MxL w) : Sat Tryd.prog 11 [.string ty37] w (fun u Z => ∃ a b c d e f g h i, u = .tuple #[.agg #[.slice a b c, .slice d e f, .slice g h i], .int .i64 0] ∧ ∀ w0 w, Hp w0.heap.size w0 w Z → Stm w (.agg #[.slice a b c, .slice d e f, .slice g h i]) st37) :=
  PrsO_sat ty37 st37 w hm ty37E ty37S
set_option maxRecDepth 100000 in
set_option maxHeartbeats 4000000 in
theorem Ea37_sat (v dv : Value) (w : World) (h : Stm w v st37) (hd : Dats w dv da37) : Sat Tryd.prog 33 [v, dv] w (fun u L => ∃ v, u = .tuple #[v, .int .i64 0] ∧ L = [irow v [-5000, 1100, 1100]]) :=
  (Earliest_sat v dv st37 da37 w h hd).mono fun u L ⟨v, h1, h2⟩ => ⟨v, by rw [h1, st37A.2.1], by rw [h2, ans_yes _ st37A.2.1, st37A.2.2]⟩
set_option maxRecDepth 100000 in
set_option maxHeartbeats 4000000 in
theorem Cb37_sat (v dv : Value) (w : World) (h : Stm w v st37) (hd : Dats w dv db37) : Sat Tryd.prog 34 [v, dv] w (fun u L => ∃ v, u = .tuple #[v, .bool false, .int .i64 0] ∧ L = [irow v [1, 2]]) :=
  (Cons_sat v dv st37 db37 w h hd).mono fun u L hR => by
    rcases hR with ⟨h0, _⟩ | ⟨_, ⟨a, b, v', h1, h2, h3, h4, h5, h6⟩ | ⟨h1, _⟩⟩
    · exact absurd st37B.1 h0
    · have h2' : b < 3 := h2
      have hab : a = 1 ∧ b = 2 := by
        have c1 : (a = 0 ∧ b = 1) ∨ (a = 0 ∧ b = 2) ∨ (a = 1 ∧ b = 2) := by omega
        rcases c1 with ⟨rfl, rfl⟩ | ⟨rfl, rfl⟩ | h
        · rw [st37B.2.1] at h3; cases h3
        · rw [st37B.2.2.1] at h3; cases h3
        · exact h
      rw [hab.1, hab.2, st37B.2.2.2.2] at h6
      exact ⟨v', h5, h6⟩
    · have := h1 1 2 (by decide) (show 2 < 3 by decide) (.inl (show 1 < 3 by decide))
      rw [st37B.2.2.2.1] at this
      cases this
set_option maxRecDepth 100000 in
set_option maxHeartbeats 4000000 in
theorem top37_sat (w : World) (hm : MxL w) : SatV Tryd.prog 32 [] w (.bool true) := by
  refine SatL.of 52 [0] Tryd.func32 (by kernel_rfl) (by kernel_rfl) rfl rfl rfl rfl ?_
  repeat' (first|(apply OK_seq)|(apply thenQ_n)|(apply OK_region)|(apply OKx_gt; refine OKx_slit (vs := [.agg #[.int .i64 1, .int .i64 1100, .int .i64 1200], .agg #[.int .i64 2, .int .i64 1000, .int .i64 1050]]) (cs := [[.int .i64 1, .int .i64 1100, .int .i64 1200], [.int .i64 2, .int .i64 1000, .int .i64 1050]]) [.int .i64 1, .int .i64 1100, .int .i64 1200, .int .i64 2, .int .i64 1000, .int .i64 1050] rfl rfl rfl rfl rfl rfl ?_; intro gd)|(apply OKx_gt; refine OKx_slit (vs := [.agg #[.int .i64 1, .int .i64 1100, .int .i64 1200]]) (cs := [[.int .i64 1, .int .i64 1100, .int .i64 1200]]) [.int .i64 1, .int .i64 1100, .int .i64 1200] rfl rfl rfl rfl rfl rfl ?_; intro ge)|(apply OKx_gc 11;exact rfl; refine OKx_call (f := 11) rfl rfl (fun w1 hp => Pa37_sat w1 (hm.below hp.below)) ?_; rintro _ Z ⟨sa1, sa2, sa3, sb1, sb2, sb3, sc1, sc2, sc3, rfl, hZ⟩; refine OKx_ent (Ent.perm List.perm_append_comm) ?_; rw [List.nil_append])|(apply OKx_gc 33;exact rfl; refine OKx_call (f := 33) rfl rfl (fun w1 hp => Ea37_sat _ _ w1 (hZ w w1 (hp.sub (((List.Sublist.refl Z).cons _).cons _))) (hp.dats 0 rfl (by decide) da37_bd)) ?_; rintro _ _ ⟨vE, rfl, rfl⟩; rw [List.cons_append, List.nil_append])|(apply OKx_gc 34;exact rfl; refine OKx_call (f := 34) rfl rfl (fun w1 hp => Cb37_sat _ _ w1 (hZ w w1 (hp.sub (((((List.Sublist.refl Z).cons _).cons _).cons _).cons _))) (hp.dats 0 rfl (by decide) db37_bd)) ?_; rintro _ _ ⟨vC, rfl, rfl⟩; rw [List.cons_append, List.nil_append])|(apply OKx_gc 26;exact rfl; refine OKx_callV (f := 26) (v := .bool true) rfl rfl rfl (fun w1 hp => equalT_sat _ _ [-5000, 1100, 1100] [-5000, 1100, 1100] w1 (hp.ints 3 rfl (by decide)) (hp.ints 0 rfl (by decide)) rfl) ?_)|(apply OKx_gc 26;exact rfl; refine OKx_callV (f := 26) (v := .bool true) rfl rfl rfl (fun w1 hp => equalT_sat _ _ [1, 2] [1, 2] w1 (hp.ints 2 rfl (by decide)) (hp.ints 0 rfl (by decide)) rfl) ?_)|(apply OKx_nilK)|(apply OK_block)|(apply blockQ_n)|(apply blockQ_s)|(apply thenQ_e)|(apply blockQ_e;exact rfl)|(apply thenQ_r)|(apply blockQ_r)|(apply OK_condT;exact rfl)|(apply OK_condF;exact rfl)|(apply OK_skip)|(apply OK_exit)|(apply OK_ret)|(apply OKx_move;(conv=>lhs;whnf)<;>exact rfl)|(apply OKx_assign;(conv=>lhs;whnf)<;>exact rfl)|(apply OKx_eql;exact rfl;exact rfl;all_goals (intro _; try (exfalso;omega)))|(apply OKx_pickT;exact rfl;(conv=>lhs;whnf)<;>exact rfl)|(apply OKx_pickF;exact rfl;(conv=>lhs;whnf)<;>exact rfl)|(apply OKx_guardT;exact rfl;exact rfl)|(apply OKx_guardF;exact rfl;exact rfl)|(apply OKx_guardU;exact rfl;exact rfl)|(apply OKx_notT;exact rfl)|(apply OKx_notF;exact rfl)|(apply OKx_extract;exact rfl;(conv=>lhs;whnf)<;>exact rfl)|(apply OKx_allocA;intro _)|(apply OKx_ldBA;exact rfl;(first | exact at0|exact at1|exact at2|exact at3|exact at4|exact at5|exact at6|exact at7);exact rfl)|(apply OKx_ldRA;(conv=>lhs;whnf)<;>exact rfl;(with_reducible assumption))|(apply OKx_slit1;(conv=>lhs;whnf)<;>exact rfl;exact rfl;intro _)|(apply OKx_slit3;(conv=>lhs;whnf)<;>exact rfl;(conv=>lhs;whnf)<;>exact rfl;(conv=>lhs;whnf)<;>exact rfl;exact rfl;exact rfl;exact rfl;intro _)|(apply OKx_slit2;(conv=>lhs;whnf)<;>exact rfl;(conv=>lhs;whnf)<;>exact rfl;exact rfl;exact rfl;intro _)|(apply OKx_build3;(conv=>lhs;whnf)<;>exact rfl;(conv=>lhs;whnf)<;>exact rfl;(conv=>lhs;whnf)<;>exact rfl;exact rfl;exact rfl;exact rfl)|(apply OKx_stBA; kernel_rfl;exact rfl;exact rfl;exact rfl;(first | exact at0|exact at1|exact at2|exact at3|exact at4|exact at5|exact at6|exact at7);exact rfl;exact rfl;exact rfl))
  refine bodyQ_r1 (by ((conv=>lhs;whnf)<;>exact rfl)) ?_
  exact ⟨_, Ent.nil, rfl, rfl⟩
theorem great37_small {s : Stem} {ds : List Dt} (h : greatB s ds = false) : s.names.length ≤ 8 := by
  unfold greatB at h
  simp only [Bool.or_eq_false_iff, decide_eq_false_iff_not] at h
  omega
theorem ans_len {s : Stem} {ds : List Dt} (h : stCheck s = 0) : (ans s ds (eYrs s ds)).length ≤ 64 := by
  have := stCheck_len s h
  have h2 := eYrs_len s ds
  unfold ans
  split
  · omega
  · simp
set_option maxRecDepth 100000 in
set_option maxHeartbeats 4000000 in
theorem TopDatesText_sat (v dv : Value) (s : Stem) (ds : List Dt) (w : World) (h : Stm w v s) (hd : Dats w dv ds) (hm : MxL w) : SatV Tryd.prog 8 [v, dv] w (.bool true) := by
  have hst := h
  obtain ⟨nv, ev, pv, rfl, hN, hE, hP⟩ := h
  have hgr := fun w1 (hb : Below w.heap.size w w1) => Great_sat _ _ s ds w1 (hst.below hb) (hd.below hb)
  have hck := fun w1 (hb : Below w.heap.size w w1) => rdCheck_sat _ _ s ds w1 (hst.below hb) (hd.below hb)
  cases hg : greatB s ds
  rotate_left
  · rw [hg] at hgr
    refine SatL.of 117 [4] Tryd.func8 (by kernel_rfl) (by kernel_rfl) rfl rfl rfl rfl ?_
    repeat' (first|(apply OK_seq)|(apply thenQ_n)|(apply OK_region)|(apply OKx_gc 30;exact rfl; refine OKx_callV (f := 30) (v := .bool true) rfl rfl rfl (fun w1 hp => hgr w1 hp.below) ?_)|(apply OKx_gc 32;exact rfl; refine OKx_callV (f := 32) rfl rfl rfl (fun w1 hp => top37_sat w1 (hm.below hp.below)) ?_)|(refine OK_rid 14 ?_; refine OK_quiet (id := 14) (by kernel_rfl) (by kernel_rfl) ?_)|(apply OKx_nilK)|(apply OK_block)|(apply blockQ_n)|(apply blockQ_s)|(apply thenQ_e)|(apply blockQ_e;exact rfl)|(apply thenQ_r)|(apply blockQ_r)|(apply OK_condT;exact rfl)|(apply OK_condF;exact rfl)|(apply OK_skip)|(apply OK_exit)|(apply OK_ret)|(apply OKx_move;(conv=>lhs;whnf)<;>exact rfl)|(apply OKx_assign;(conv=>lhs;whnf)<;>exact rfl)|(apply OKx_ldB;exact rfl;(first | exact at0|exact at1|exact at2|exact at3|exact at4|exact at5|exact at6|exact at7);exact rfl)|(apply OKx_ldR;(conv=>lhs;whnf)<;>exact rfl;(with_reducible assumption))|(apply OKx_ldI;exact rfl;(first | exact at0|exact at1|exact at2|exact at3|exact at4|exact at5|exact at6|exact at7);omega)|(apply OKx_len;exact rfl)|(apply OKx_lenR;(conv=>lhs;whnf)<;>exact rfl;(with_reducible assumption))|(apply OKx_lenR2;(conv=>lhs;whnf)<;>exact rfl;(with_reducible assumption))|(apply OKx_lenO;(conv=>lhs;whnf)<;>exact rfl;(first | exact at0|exact at1|exact at2|exact at3|exact at4|exact at5|exact at6|exact at7))|(apply OKx_lss;exact rfl;exact rfl;all_goals (intro _; try (exfalso;omega)))|(apply OKx_eql;exact rfl;exact rfl;all_goals (intro _; try (exfalso;omega)))|(apply OKx_neq;exact rfl;exact rfl;all_goals (intro _; try (exfalso;omega)))|(apply OKx_idxO;exact rfl;exact rfl;omega)|(apply OKx_idxR;(conv=>lhs;whnf)<;>exact rfl;(with_reducible assumption);exact rfl;omega;intro _ _)|(apply OKx_idxOz;exact rfl;exact rfl;omega;omega)|(apply OKx_idxRz;(conv=>lhs;whnf)<;>exact rfl;(with_reducible assumption);exact rfl;omega;omega;intro _ _)|(apply OKx_dec;exact rfl;exact rfl;omega;omega)|(apply OKx_subN;exact rfl;exact rfl;omega;omega)|(apply OKx_sub;exact rfl;exact rfl;omega;omega)|(apply OKx_pickT;exact rfl;(conv=>lhs;whnf)<;>exact rfl)|(apply OKx_pickF;exact rfl;(conv=>lhs;whnf)<;>exact rfl)|(apply OKx_guardT;exact rfl;exact rfl)|(apply OKx_guardF;exact rfl;exact rfl)|(apply OKx_guardU;exact rfl;exact rfl)|(apply OKx_notT;exact rfl)|(apply OKx_notF;exact rfl)|(apply OKx_extract;exact rfl;(conv=>lhs;whnf)<;>exact rfl)|(apply OKx_boxA;exact rfl;intro _)|(apply OKx_allocA;intro _)|(apply OKx_ldBA;exact rfl;(first | exact at0|exact at1|exact at2|exact at3|exact at4|exact at5|exact at6|exact at7);exact rfl)|(apply OKx_ldRA;(conv=>lhs;whnf)<;>exact rfl;(with_reducible assumption))|(apply OKx_stBA; kernel_rfl;exact rfl;exact rfl;exact rfl;(first | exact at0|exact at1|exact at2|exact at3|exact at4|exact at5|exact at6|exact at7);exact rfl;exact rfl;exact rfl))
    refine bodyQ_r1 (by ((conv=>lhs;whnf)<;>exact rfl)) ?_
    exact ⟨_, Ent.nil, rfl, rfl⟩
  rw [hg] at hgr
  by_cases hc0 : dCheck s ds = 0
  rotate_left
  · refine SatL.of 117 [4] Tryd.func8 (by kernel_rfl) (by kernel_rfl) rfl rfl rfl rfl ?_
    repeat' (first|(apply OK_seq)|(apply thenQ_n)|(apply OK_region)|(apply OKx_gc 30;exact rfl; refine OKx_callV (f := 30) (v := .bool false) rfl rfl rfl (fun w1 hp => hgr w1 hp.below) ?_)|(apply OKx_gc 31;exact rfl; refine OKx_callV (f := 31) rfl rfl rfl (fun w1 hp => hck w1 hp.below) ?_)|(apply OKx_gc 32;exact rfl; refine OKx_callV (f := 32) rfl rfl rfl (fun w1 hp => top37_sat w1 (hm.below hp.below)) ?_)|(refine OK_rid 14 ?_; refine OK_quiet (id := 14) (by kernel_rfl) (by kernel_rfl) ?_)|(apply OKx_nilK)|(apply OK_block)|(apply blockQ_n)|(apply blockQ_s)|(apply thenQ_e)|(apply blockQ_e;exact rfl)|(apply thenQ_r)|(apply blockQ_r)|(apply OK_condT;exact rfl)|(apply OK_condF;exact rfl)|(apply OK_skip)|(apply OK_exit)|(apply OK_ret)|(apply OKx_move;(conv=>lhs;whnf)<;>exact rfl)|(apply OKx_assign;(conv=>lhs;whnf)<;>exact rfl)|(apply OKx_ldB;exact rfl;(first | exact at0|exact at1|exact at2|exact at3|exact at4|exact at5|exact at6|exact at7);exact rfl)|(apply OKx_ldR;(conv=>lhs;whnf)<;>exact rfl;(with_reducible assumption))|(apply OKx_ldI;exact rfl;(first | exact at0|exact at1|exact at2|exact at3|exact at4|exact at5|exact at6|exact at7);omega)|(apply OKx_len;exact rfl)|(apply OKx_lenR;(conv=>lhs;whnf)<;>exact rfl;(with_reducible assumption))|(apply OKx_lenR2;(conv=>lhs;whnf)<;>exact rfl;(with_reducible assumption))|(apply OKx_lenO;(conv=>lhs;whnf)<;>exact rfl;(first | exact at0|exact at1|exact at2|exact at3|exact at4|exact at5|exact at6|exact at7))|(apply OKx_lss;exact rfl;exact rfl;all_goals (intro _; try (exfalso;omega)))|(apply OKx_eql;exact rfl;exact rfl;all_goals (intro _; try (exfalso;omega)))|(apply OKx_neq;exact rfl;exact rfl;all_goals (intro _; try (exfalso;omega)))|(apply OKx_idxO;exact rfl;exact rfl;omega)|(apply OKx_idxR;(conv=>lhs;whnf)<;>exact rfl;(with_reducible assumption);exact rfl;omega;intro _ _)|(apply OKx_idxOz;exact rfl;exact rfl;omega;omega)|(apply OKx_idxRz;(conv=>lhs;whnf)<;>exact rfl;(with_reducible assumption);exact rfl;omega;omega;intro _ _)|(apply OKx_dec;exact rfl;exact rfl;omega;omega)|(apply OKx_subN;exact rfl;exact rfl;omega;omega)|(apply OKx_sub;exact rfl;exact rfl;omega;omega)|(apply OKx_pickT;exact rfl;(conv=>lhs;whnf)<;>exact rfl)|(apply OKx_pickF;exact rfl;(conv=>lhs;whnf)<;>exact rfl)|(apply OKx_guardT;exact rfl;exact rfl)|(apply OKx_guardF;exact rfl;exact rfl)|(apply OKx_guardU;exact rfl;exact rfl)|(apply OKx_notT;exact rfl)|(apply OKx_notF;exact rfl)|(apply OKx_extract;exact rfl;(conv=>lhs;whnf)<;>exact rfl)|(apply OKx_boxA;exact rfl;intro _)|(apply OKx_allocA;intro _)|(apply OKx_ldBA;exact rfl;(first | exact at0|exact at1|exact at2|exact at3|exact at4|exact at5|exact at6|exact at7);exact rfl)|(apply OKx_ldRA;(conv=>lhs;whnf)<;>exact rfl;(with_reducible assumption))|(apply OKx_stBA; kernel_rfl;exact rfl;exact rfl;exact rfl;(first | exact at0|exact at1|exact at2|exact at3|exact at4|exact at5|exact at6|exact at7);exact rfl;exact rfl;exact rfl))
    refine bodyQ_r1 (by ((conv=>lhs;whnf)<;>exact rfl)) ?_
    exact ⟨_, Ent.nil, rfl, rfl⟩
  rw [hc0] at hck
  have hs := (dCheck_zero s ds hc0).1
  have hlen := stCheck_len s hs
  obtain ⟨r1, r2⟩ := pr_small hs (Nat.le_trans (great37_small hg) (by decide))
  have r3 := psE_prT hs r2
  have r4 := psS_prT hs
  have hal := ans_len (ds := ds) hs
  by_cases hy : yErr s ds = 0
  · have hcn : ∀ (v : Value) (w1 : World), Stm w1 v s → Dats w1 dv ds → Sat Tryd.prog 34 [v, dv] w1 (fun u L => u = .tuple #[.slice none 0 0, .bool true, .int .i64 0] ∧ L = []) := fun v w1 h1 h2 =>
      (Cons_sat v dv s ds w1 h1 h2).mono fun u L hR => by
        rcases hR with ⟨h0, _⟩ | ⟨_, ⟨a, b, v', h1, h2, h3, _⟩ | ⟨_, h1, h2⟩⟩
        · exact absurd hc0 h0
        · exact absurd hy (bad_yErr s ds hc0 a b h2 h3)
        · exact ⟨h1, h2⟩
    have heR : ∀ (v : Value) (w1 : World), Stm w1 v s → Dats w1 dv ds → Sat Tryd.prog 33 [v, dv] w1 (fun u L => ∃ v, u = .tuple #[v, .int .i64 0] ∧ L = [irow v (ans s ds (eYrs s ds))]) := fun v w1 h1 h2 => (Earliest_sat v dv s ds w1 h1 h2).mono fun u L hR => by
      obtain ⟨v', e1, e2⟩ := hR
      exact ⟨v', by rw [e1, hy], e2⟩
    generalize ans s ds (eYrs s ds) = ys at *
    refine SatL.of 117 [4] Tryd.func8 (by kernel_rfl) (by kernel_rfl) rfl rfl rfl rfl ?_
    repeat' (first|(apply OK_seq)|(apply thenQ_n)|(apply OK_region)|(apply OKx_gc 30;exact rfl; refine OKx_callV (f := 30) (v := .bool false) rfl rfl rfl (fun w1 hp => hgr w1 hp.below) ?_)|(apply OKx_gc 31;exact rfl; refine OKx_callV (f := 31) (v := .int .i64 0) rfl rfl rfl (fun w1 hp => hck w1 hp.below) ?_)|(apply OKx_gc 32;exact rfl; refine OKx_callV (f := 32) rfl rfl rfl (fun w1 hp => top37_sat w1 (hm.below hp.below)) ?_)|(apply OKx_gc 12;exact rfl; refine OKx_callV (f := 12) rfl rfl rfl (fun w1 hp => PrtO_sat _ s (bOf (prT s)) w1 (hst.below hp.below) r1 rfl) ?_)|(apply OKx_gc 11;exact rfl; refine OKx_call (f := 11) rfl rfl (fun w1 hp => PrsO_sat (bOf (prT s)) s w1 (hm.below hp.below) r3 r4) ?_; rintro _ Z ⟨sa1, sa2, sa3, sb1, sb2, sb3, sc1, sc2, sc3, rfl, hZ⟩; refine OKx_ent (Ent.perm List.perm_append_comm) ?_; rw [List.cons_append, List.nil_append])|(apply OKx_gc 33;exact rfl; refine OKx_call (f := 33) rfl rfl (fun w1 hp => heR _ w1 (hZ w w1 (hp.sub ((((List.Sublist.refl Z).cons _).cons _).cons _))) (hd.below hp.below)) ?_; rintro _ _ ⟨vB, rfl, rfl⟩; rw [List.cons_append, List.nil_append])|(apply OKx_gc 33;exact rfl; refine OKx_call (f := 33) rfl rfl (fun w1 hp => heR _ w1 (hst.below hp.below) (hd.below hp.below)) ?_; rintro _ _ ⟨vA, rfl, rfl⟩; rw [List.cons_append, List.nil_append])|(apply OKx_gc 34;exact rfl; refine OKx_call (f := 34) rfl rfl (fun w1 hp => hcn _ w1 (hZ w w1 (hp.sub (((((List.Sublist.refl Z).cons _).cons _).cons _).cons _))) (hd.below hp.below)) ?_; rintro _ _ ⟨rfl, rfl⟩; rw [List.nil_append])|(apply OKx_gc 26;exact rfl; refine OKx_callV (f := 26) (v := .bool true) rfl rfl rfl (fun w1 hp => equalT_sat _ _ ys ys w1 (hp.ints 1 rfl (by omega)) (hp.ints 0 rfl (by omega)) rfl) ?_)|(apply OKx_gn; refine OKx_beq Tryd.underlying4 rfl rfl ?_)|(apply OKx_gn; refine OKx_bneq Tryd.underlying4 rfl rfl ?_)|(refine OK_rid 14 ?_; refine OK_quiet (id := 14) (by kernel_rfl) (by kernel_rfl) ?_)|(apply OKx_nilK)|(apply OK_block)|(apply blockQ_n)|(apply blockQ_s)|(apply thenQ_e)|(apply blockQ_e;exact rfl)|(apply thenQ_r)|(apply blockQ_r)|(apply OK_condT;exact rfl)|(apply OK_condF;exact rfl)|(apply OK_skip)|(apply OK_exit)|(apply OK_ret)|(apply OKx_move;(conv=>lhs;whnf)<;>exact rfl)|(apply OKx_assign;(conv=>lhs;whnf)<;>exact rfl)|(apply OKx_ldB;exact rfl;(first | exact at0|exact at1|exact at2|exact at3|exact at4|exact at5|exact at6|exact at7);exact rfl)|(apply OKx_ldR;(conv=>lhs;whnf)<;>exact rfl;(with_reducible assumption))|(apply OKx_ldI;exact rfl;(first | exact at0|exact at1|exact at2|exact at3|exact at4|exact at5|exact at6|exact at7);omega)|(apply OKx_len;exact rfl)|(apply OKx_lenR;(conv=>lhs;whnf)<;>exact rfl;(with_reducible assumption))|(apply OKx_lenR2;(conv=>lhs;whnf)<;>exact rfl;(with_reducible assumption))|(apply OKx_lenO;(conv=>lhs;whnf)<;>exact rfl;(first | exact at0|exact at1|exact at2|exact at3|exact at4|exact at5|exact at6|exact at7))|(apply OKx_lss;exact rfl;exact rfl;all_goals (intro _; try (exfalso;omega)))|(apply OKx_eql;exact rfl;exact rfl;all_goals (intro _; try (exfalso;omega)))|(apply OKx_neq;exact rfl;exact rfl;all_goals (intro _; try (exfalso;omega)))|(apply OKx_idxO;exact rfl;exact rfl;omega)|(apply OKx_idxR;(conv=>lhs;whnf)<;>exact rfl;(with_reducible assumption);exact rfl;omega;intro _ _)|(apply OKx_idxOz;exact rfl;exact rfl;omega;omega)|(apply OKx_idxRz;(conv=>lhs;whnf)<;>exact rfl;(with_reducible assumption);exact rfl;omega;omega;intro _ _)|(apply OKx_dec;exact rfl;exact rfl;omega;omega)|(apply OKx_subN;exact rfl;exact rfl;omega;omega)|(apply OKx_sub;exact rfl;exact rfl;omega;omega)|(apply OKx_pickT;exact rfl;(conv=>lhs;whnf)<;>exact rfl)|(apply OKx_pickF;exact rfl;(conv=>lhs;whnf)<;>exact rfl)|(apply OKx_guardT;exact rfl;exact rfl)|(apply OKx_guardF;exact rfl;exact rfl)|(apply OKx_guardU;exact rfl;exact rfl)|(apply OKx_notT;exact rfl)|(apply OKx_notF;exact rfl)|(apply OKx_extract;exact rfl;(conv=>lhs;whnf)<;>exact rfl)|(apply OKx_boxA;exact rfl;intro _)|(apply OKx_allocA;intro _)|(apply OKx_ldBA;exact rfl;(first | exact at0|exact at1|exact at2|exact at3|exact at4|exact at5|exact at6|exact at7);exact rfl)|(apply OKx_ldRA;(conv=>lhs;whnf)<;>exact rfl;(with_reducible assumption))|(apply OKx_stBA; kernel_rfl;exact rfl;exact rfl;exact rfl;(first | exact at0|exact at1|exact at2|exact at3|exact at4|exact at5|exact at6|exact at7);exact rfl;exact rfl;exact rfl))
    refine bodyQ_r1 (by ((conv=>lhs;whnf)<;>exact rfl)) ?_
    exact ⟨_, Ent.nil, rfl, rfl⟩
  · have hcn : ∀ (v : Value) (w1 : World), Stm w1 v s → Dats w1 dv ds → Sat Tryd.prog 34 [v, dv] w1 (fun u L => ∃ a b g n c, a < b ∧ b < s.names.length ∧ bad s ds a b = true ∧ n = (pathL s.par a b).length ∧ u = .tuple #[.slice (some ⟨g, 0, none⟩) n c, .bool false, .int .i64 0] ∧ L = [.row 3 1 (.slice (some ⟨g, 0, none⟩) n c) n (ints (pathL s.par a b))]) := fun v w1 h1 h2 =>
      (Cons_sat v dv s ds w1 h1 h2).row.mono fun u L hR => by
        rcases hR with ⟨⟨h0, _⟩ | ⟨_, ⟨a, b, v', h1, h2, h3, _, h4, h5⟩ | ⟨h1, _⟩⟩, hsh⟩
        · exact absurd hc0 h0
        · subst h5
          obtain ⟨_, hne⟩ := hsh _ _ _ _ _ List.mem_cons_self
          obtain ⟨g, c, rfl⟩ := hne (by have := (path_ends hc0 h1 h2 h3).1;omega)
          exact ⟨a, b, g, _, c, h1, h2, h3, rfl, h4, rfl⟩
        · exact absurd (noBad_yErr s ds hc0 h1) hy
    have heR : ∀ (v : Value) (w1 : World), Stm w1 v s → Dats w1 dv ds → Sat Tryd.prog 33 [v, dv] w1 (fun u L => ∃ v, u = .tuple #[v, .int .i64 (yErr s ds)] ∧ L = [irow v (ans s ds (eYrs s ds))]) := fun v w1 h1 h2 => Earliest_sat v dv s ds w1 h1 h2
    have hpe := fun a b => path_ends (a := a) (b := b) hc0
    generalize ans s ds (eYrs s ds) = ys at *
    generalize yErr s ds = ye at *
    refine SatL.of 117 [4] Tryd.func8 (by kernel_rfl) (by kernel_rfl) rfl rfl rfl rfl ?_
    repeat' (first|(apply OK_seq)|(apply thenQ_n)|(apply OK_region)|(apply OKx_gc 30;exact rfl; refine OKx_callV (f := 30) (v := .bool false) rfl rfl rfl (fun w1 hp => hgr w1 hp.below) ?_)|(apply OKx_gc 31;exact rfl; refine OKx_callV (f := 31) (v := .int .i64 0) rfl rfl rfl (fun w1 hp => hck w1 hp.below) ?_)|(apply OKx_gc 32;exact rfl; refine OKx_callV (f := 32) rfl rfl rfl (fun w1 hp => top37_sat w1 (hm.below hp.below)) ?_)|(apply OKx_gc 12;exact rfl; refine OKx_callV (f := 12) rfl rfl rfl (fun w1 hp => PrtO_sat _ s (bOf (prT s)) w1 (hst.below hp.below) r1 rfl) ?_)|(apply OKx_gc 11;exact rfl; refine OKx_call (f := 11) rfl rfl (fun w1 hp => PrsO_sat (bOf (prT s)) s w1 (hm.below hp.below) r3 r4) ?_; rintro _ Z ⟨sa1, sa2, sa3, sb1, sb2, sb3, sc1, sc2, sc3, rfl, hZ⟩; refine OKx_ent (Ent.perm List.perm_append_comm) ?_; rw [List.cons_append, List.nil_append])|(apply OKx_gc 33;exact rfl; refine OKx_call (f := 33) rfl rfl (fun w1 hp => heR _ w1 (hZ w w1 (hp.sub ((((List.Sublist.refl Z).cons _).cons _).cons _))) (hd.below hp.below)) ?_; rintro _ _ ⟨vB, rfl, rfl⟩; rw [List.cons_append, List.nil_append])|(apply OKx_gc 33;exact rfl; refine OKx_call (f := 33) rfl rfl (fun w1 hp => heR _ w1 (hst.below hp.below) (hd.below hp.below)) ?_; rintro _ _ ⟨vA, rfl, rfl⟩; rw [List.cons_append, List.nil_append])|(apply OKx_gc 34;exact rfl; refine OKx_call (f := 34) rfl rfl (fun w1 hp => hcn _ w1 (hZ w w1 (hp.sub (((((List.Sublist.refl Z).cons _).cons _).cons _).cons _))) (hd.below hp.below)) ?_; rintro _ _ ⟨pa, pb, pg, pn, pc, pab, pbn, pbad, hpn, rfl, rfl⟩; rw [List.cons_append, List.nil_append]; obtain ⟨hp1, hp2, hp3, hp4⟩ := hpe pa pb pab pbn pbad; have hps := path_small s pa pb hs; have hpd := dsnL_len s.par pa s.names.length)|(apply OKx_gc 26;exact rfl; refine OKx_callV (f := 26) (v := .bool true) rfl rfl rfl (fun w1 hp => equalT_sat _ _ ys ys w1 (hp.ints 2 rfl (by omega)) (hp.ints 1 rfl (by omega)) rfl) ?_)|(apply OKx_gn; refine OKx_beq Tryd.underlying4 rfl rfl ?_)|(apply OKx_gn; refine OKx_bneq Tryd.underlying4 rfl rfl ?_)|(apply OKx_gl; refine OKx_ldI 0 rfl rfl (by omega) ?_; rw [hp2])|(apply OKx_gl; refine OKx_ldI 1 rfl rfl (by omega) ?_; rw [hpn, hp3])|(apply OKx_gc 18;exact rfl; refine OKx_call (f := 18) rfl rfl (fun w1 hp => DescN_sat _ s (pa : Int) w1 (hst.below hp.below) hs (by omega) (by omega)) ?_; rw [Int.toNat_natCast]; rintro _ _ ⟨ba, bn, bc, hbn, rfl, hba, rfl⟩; rw [List.cons_append, List.nil_append])|(apply OKx_gc 19;exact rfl; refine OKx_callV (f := 19) (v := .bool true) rfl rfl rfl (fun w1 hp => by have := contains_int_sat (.slice ba bn bc) (dsnL s.par pa s.names.length) (pb : Int) w1 (hp.ints 0 rfl (by omega)); rwa [hp4] at this) ?_)|(refine OK_rid 14 ?_; refine OK_pureAny 10 6 [0, 1, 2, 3] [.row 3 1 (.slice (some ⟨pg, 0, none⟩) pn pc) pn (ints (pathL s.par pa pb)), .row _ _ _ _ _, .row _ _ _ _ _, .box 26 _ _, .box 26 _ [nv, ev, pv]] (id := 14) (by kernel_rfl) (by kernel_rfl) (by kernel_rfl) (by kernel_rfl) (by kernel_rfl) (by kernel_rfl) (by exact Ent.pick [0,1,2,3,4] rfl) (by ((try simp only [pickO, nthO, List.cons_append, List.nil_append]) <;> exact rfl)) ?_)|(apply OKx_nilK)|(apply OK_block)|(apply blockQ_n)|(apply blockQ_s)|(apply thenQ_e)|(apply blockQ_e;exact rfl)|(apply thenQ_r)|(apply blockQ_r)|(apply OK_condT;exact rfl)|(apply OK_condF;exact rfl)|(apply OK_skip)|(apply OK_exit)|(apply OK_ret)|(apply OKx_move;(conv=>lhs;whnf)<;>exact rfl)|(apply OKx_assign;(conv=>lhs;whnf)<;>exact rfl)|(apply OKx_ldB;exact rfl;(first | exact at0|exact at1|exact at2|exact at3|exact at4|exact at5|exact at6|exact at7);exact rfl)|(apply OKx_ldR;(conv=>lhs;whnf)<;>exact rfl;(with_reducible assumption))|(apply OKx_ldI;exact rfl;(first | exact at0|exact at1|exact at2|exact at3|exact at4|exact at5|exact at6|exact at7);omega)|(apply OKx_len;exact rfl)|(apply OKx_lenR;(conv=>lhs;whnf)<;>exact rfl;(with_reducible assumption))|(apply OKx_lenR2;(conv=>lhs;whnf)<;>exact rfl;(with_reducible assumption))|(apply OKx_lenO;(conv=>lhs;whnf)<;>exact rfl;(first | exact at0|exact at1|exact at2|exact at3|exact at4|exact at5|exact at6|exact at7))|(apply OKx_lss;exact rfl;exact rfl;all_goals (intro _; try (exfalso;omega)))|(apply OKx_eql;exact rfl;exact rfl;all_goals (intro _; try (exfalso;omega)))|(apply OKx_neq;exact rfl;exact rfl;all_goals (intro _; try (exfalso;omega)))|(apply OKx_idxO;exact rfl;exact rfl;omega)|(apply OKx_idxR;(conv=>lhs;whnf)<;>exact rfl;(with_reducible assumption);exact rfl;omega;intro _ _)|(apply OKx_idxOz;exact rfl;exact rfl;omega;omega)|(apply OKx_idxRz;(conv=>lhs;whnf)<;>exact rfl;(with_reducible assumption);exact rfl;omega;omega;intro _ _)|(apply OKx_dec;exact rfl;exact rfl;omega;omega)|(apply OKx_subN;exact rfl;exact rfl;omega;omega)|(apply OKx_sub;exact rfl;exact rfl;omega;omega)|(apply OKx_pickT;exact rfl;(conv=>lhs;whnf)<;>exact rfl)|(apply OKx_pickF;exact rfl;(conv=>lhs;whnf)<;>exact rfl)|(apply OKx_guardT;exact rfl;exact rfl)|(apply OKx_guardF;exact rfl;exact rfl)|(apply OKx_guardU;exact rfl;exact rfl)|(apply OKx_notT;exact rfl)|(apply OKx_notF;exact rfl)|(apply OKx_extract;exact rfl;(conv=>lhs;whnf)<;>exact rfl)|(apply OKx_boxA;exact rfl;intro _)|(apply OKx_allocA;intro _)|(apply OKx_ldBA;exact rfl;(first | exact at0|exact at1|exact at2|exact at3|exact at4|exact at5|exact at6|exact at7);exact rfl)|(apply OKx_ldRA;(conv=>lhs;whnf)<;>exact rfl;(with_reducible assumption))|(apply OKx_stBA; kernel_rfl;exact rfl;exact rfl;exact rfl;(first | exact at0|exact at1|exact at2|exact at3|exact at4|exact at5|exact at6|exact at7);exact rfl;exact rfl;exact rfl)|(refine OKc_step1 (S := [0, 1, 2, 3]) (i1 := 4) (S1 := [0, 1, 2, 3, 4]) (by first | exact Ent.refl _ _ | exact Ent.nil | exact Ent.pick [0, 1, 2, 3, 4] rfl | exact Ent.pick [1, 2, 3, 4, 5] rfl | exact Ent.pick [2, 3, 4, 5, 6] rfl | exact Ent.pick [3, 4, 5, 6, 7] rfl) (by kernel_rfl) (by kernel_rfl) rfl ?_)|(refine OKc_pure (S := [0, 1, 2, 3, 4]) (i := 5) (S1 := [0, 1, 2, 3, 4, 5]) (by kernel_rfl) (by kernel_rfl) rfl ?_)|(refine OKc_pure (S := [0, 1, 2, 3, 4, 5]) (i := 6) (S1 := [0, 1, 2, 3, 4, 5, 6]) (by kernel_rfl) (by kernel_rfl) rfl ?_)|(refine OKc_pure (S := [0, 1, 2, 3, 4, 5, 6]) (i := 7) (S1 := [0, 1, 2, 3, 4, 5, 6, 7]) (by kernel_rfl) (by kernel_rfl) rfl ?_)|(refine OKc_pure (S := [0, 1, 2, 3, 4, 5, 6, 7]) (i := 8) (S1 := [0, 1, 2, 3, 4, 5, 6, 7, 8]) (by kernel_rfl) (by kernel_rfl) rfl ?_)|(refine OKc_pure (S := [0, 1, 2, 3, 4, 5, 6, 7, 8]) (i := 9) (S1 := [0, 1, 2, 3, 4, 5, 6, 7, 8, 9]) (by kernel_rfl) (by kernel_rfl) rfl ?_)|(refine OKc_end (S := [0, 1, 2, 3, 4, 5, 6, 7, 8, 9]) (by kernel_rfl) (by first | exact Ent.refl _ _ | exact Ent.nil | exact Ent.pick [0, 1, 2, 3, 4] rfl | exact Ent.pick [1, 2, 3, 4, 5] rfl | exact Ent.pick [2, 3, 4, 5, 6] rfl | exact Ent.pick [3, 4, 5, 6, 7] rfl) ?_))
    refine bodyQ_r1 (by ((conv=>lhs;whnf)<;>exact rfl)) ?_
    exact ⟨_, Ent.nil, rfl, rfl⟩
end Go.Proofs.YtpfemholpigdeaaDoor
namespace Go.Proofs.YtpfemholpigdeaaDoor
open Go.RowKit Go.Deep Go.WideShapes
section
variable {H : Type} {enc : TypeId × Value → H} {W : World}
def Light (t : TypeId) (d : DataW H) : Prop := ∀ n ∈ d.weights Tryd.prog t, n ≤ 140737488355328
theorem light_all {e : TypeId} {els : List (DataW H)} {d : DataW H} (hd : d ∈ els) {n : Nat} (hn : n ∈ d.weights Tryd.prog e) : n ∈ DataW.weightsAll Tryd.prog e els := by
  induction els with
  | nil => simp at hd
  | cons a r ih =>
    simp only [DataW.weightsAll, List.mem_append]
    rcases List.mem_cons.1 hd with rfl | h
    · exact .inl hn
    · exact .inr (ih h)
theorem light_slice {t e : TypeId} {els sp : List (DataW H)} (hu : Tryd.prog.underlying t = some (.slice e)) (h : Light t (.slice els sp)) : (els.length + sp.length) * Tryd.prog.bytesOf e ≤ 140737488355328 ∧ ∀ d ∈ els, Light e d := by
  unfold Light at *
  simp only [DataW.weights, hu] at h
  exact ⟨h _ (by simp), fun d hd n hn => h n (by simp [light_all hd hn])⟩
theorem light_agg {t : TypeId} {fs : Array Field} {parts : List (DataW H)} (hu : Tryd.prog.underlying t = some (.struct fs)) (h : Light t (.agg parts)) (j : Nat) {ty : TypeId} {d : DataW H} (h1 : (fs.toList.map (·.type))[j]? = some ty) (h2 : parts[j]? = some d) : Light ty d := by
  intro n hn
  refine h n ?_
  simp only [DataW.weights, hu]
  exact DataW.weights_mem_each h1 h2 n hn
theorem light_each {ts : List TypeId} {ds : List (DataW H)} (h : (DataW.weightsEach Tryd.prog ts ds).all (· ≤ reachBytes) = true) (j : Nat) {t : TypeId} {d : DataW H} (h1 : ts[j]? = some t) (h2 : ds[j]? = some d) : Light t d := by
  intro n hn
  have : n ≤ reachBytes := by simpa using List.all_eq_true.1 h _ (DataW.weights_mem_each h1 h2 n hn)
  have r : reachBytes = 140737488351232 := rfl
  omega
theorem light_string {t : TypeId} {b : List UInt8} (h : Light t (.lit (.string b) : DataW H)) : b.length ≤ 140737488355328 := h _ (by simp [DataW.weights])
theorem wf_range {z : Int} (h : (Lit.int .i64 z).wf = true) : -9223372036854775808 ≤ z ∧ z ≤ 9223372036854775807 := by
  have e1 : IntKind.i64.min = -9223372036854775808 := rfl
  have e2 : IntKind.i64.max = 9223372036854775807 := rfl
  simp only [Lit.wf, Bool.and_eq_true, decide_eq_true_eq] at h
  omega
theorem open_sl2 {t e : TypeId} {fuel sz : Nat} {v : Value} {x : DataW H × List MemPlace} (ht : Tryd.prog.underlying t = some (.slice e)) (hc : Tryd.prog.cellsOf e = sz) (hsz : 0 < sz) (hb : 0 < Tryd.prog.bytesOf e)
    (h : DataW.trod enc Tryd.prog W 0 (fun _ => true) true fuel t [v] = some x) (hw : Light t x.1) :
    ∃ (n m : Nat) (C : Nat → List Value) (D : Nat → DataW H) (Q : Nat → List MemPlace), Sl2 W v sz n (fun j c => (C j).getD c undef) ∧ (∀ a k c, v = .slice a k c → k ≤ c) ∧
      ∀ i, i < n → (C i).length = sz ∧ DataW.trod enc Tryd.prog W 0 (fun _ => true) true m e (C i) = some (D i, Q i) ∧ Light e (D i) := by
  rcases open_slice ht h with ⟨h1, h2⟩ | ⟨a, len, cap, m, n, D, Q, h1, _, hl, hm, hmm, rfl, hx⟩
  · simp only [List.cons.injEq, and_true] at h1
    subst h1; subst h2
    refine ⟨0, 0, fun _ => [], fun _ => .nil, fun _ => [], ⟨by omega, none, 0, rfl, .inl rfl⟩, ?_, fun i hi => absurd hi (by omega)⟩
    intro a k c e
    cases e; exact Nat.le_refl _
  · simp only [List.cons.injEq, and_true] at h1
    subst h1
    simp only [if_true] at hmm
    subst hmm
    obtain ⟨hw1, hw2⟩ := light_slice ht hw
    rw [hc] at hx
    have hx' : ∀ i, i < len → ∃ cs', W.cells? 0 (a.add (i * sz)) sz = some cs' ∧ DataW.trod enc Tryd.prog W 0 (fun _ => true) true n e cs' = some (D i, Q i) := fun i hi => hx i (by omega)
    obtain ⟨C, hC⟩ := choose_lt (α := List Value) hx'
    have hlen : len ≤ 140737488355328 := by
      have : len * 1 ≤ len * Tryd.prog.bytesOf e := Nat.mul_le_mul_left _ hb
      simp only [List.length_map, List.length_range] at hw1
      have h3 : len * Tryd.prog.bytesOf e ≤ (len + (m - len)) * Tryd.prog.bytesOf e := Nat.mul_le_mul_right _ (by omega)
      omega
    refine ⟨len, n, C, D, Q, ⟨hlen, some a, m, rfl, ?_⟩, ?_, fun i hi => ?_⟩
    · by_cases h0 : len = 0
      · exact .inl h0
      right
      obtain ⟨b, off, spot⟩ := a
      have hs : spot = none := by
        obtain ⟨_, h4, h5⟩ := World.cells?_some (hC 0 (by omega)).1
        have h6 := h5 0 hsz
        obtain ⟨u, hu⟩ : ∃ u, (C 0)[0]? = some u := ⟨_, List.getElem?_eq_getElem (by omega)⟩
        rw [hu] at h6
        simpa [Addr.add] using World.cell?_spot h6
      subst hs
      refine ⟨b, off, rfl, fun j hj c hcs => ?_⟩
      obtain ⟨_, h4, h5⟩ := World.cells?_some (hC j hj).1
      have h6 := h5 c hcs
      rw [add_plain, add_plain] at h6
      rw [h6]
      simp [h4, hcs]
    · intro a' k c e
      cases e; exact hl
    · obtain ⟨_, h4, h5⟩ := World.cells?_some (hC i hi).1
      refine ⟨h4, (hC i hi).2, hw2 _ ?_⟩
      exact List.mem_map.2 ⟨i, List.mem_range.2 hi, rfl⟩
theorem Sl2.flat {v : Value} {sz n : Nat} {g : Nat → Nat → Value} (h : Sl2 W v sz n g) (hr : ∀ a k c, v = .slice a k c → k ≤ c) (f : Nat → Value) (hf : ∀ j, j < n → ∀ c, c < sz → f (j * sz + c) = g j c) (hsz : 0 < sz) : Sl W v sz n f := by
  obtain ⟨h1, a, cap, rfl, h2⟩ := h
  refine ⟨h1, ⟨a, cap, rfl, ?_⟩, hr⟩
  rcases h2 with h0 | ⟨b, off, ha, hc⟩
  · exact .inl h0
  refine .inr ⟨b, off, ha, fun j hj => ?_⟩
  have h3 := Nat.div_add_mod j sz
  have h4 := Nat.mod_lt j hsz
  have h5 : j / sz < n := (Nat.div_lt_iff_lt_mul hsz).2 hj
  have h6 := hc (j / sz) h5 (j % sz) h4
  have h7 := hf (j / sz) h5 (j % sz) h4
  have h8 : j / sz * sz + j % sz = j := by rw [Nat.mul_comm]; exact h3
  rw [Nat.add_assoc, h8] at h6
  rw [h8] at h7
  rw [h6, h7]
theorem open_sl {t e : TypeId} {fuel : Nat} {v : Value} {x : DataW H × List MemPlace} (ht : Tryd.prog.underlying t = some (.slice e)) (hc : Tryd.prog.cellsOf e = 1) (hb : 0 < Tryd.prog.bytesOf e)
    (h : DataW.trod enc Tryd.prog W 0 (fun _ => true) true fuel t [v] = some x) (hw : Light t x.1) :
    ∃ (n m : Nat) (V : Nat → Value) (D : Nat → DataW H) (Q : Nat → List MemPlace), Sl W v 1 n V ∧
      ∀ i, i < n → DataW.trod enc Tryd.prog W 0 (fun _ => true) true m e [V i] = some (D i, Q i) ∧ Light e (D i) := by
  obtain ⟨n, m, C, D, Q, h1, h2, h3⟩ := open_sl2 ht hc (by decide) hb h hw
  refine ⟨n, m, fun j => (C j).getD 0 undef, D, Q, h1.flat h2 _ (fun j hj c hcs => ?_) (by decide), fun i hi => ?_⟩
  · obtain rfl : c = 0 := by omega
    simp
  · obtain ⟨h4, h5, h6⟩ := h3 i hi
    refine ⟨?_, h6⟩
    match hCi : C i, h4 with
    | [u], _ => rw [hCi] at h5; simpa [hCi] using h5
theorem range_getD {α : Type} (n : Nat) (f : Nat → α) (d : α) (j : Nat) (h : j < n) : ((List.range n).map f).getD j d = f j := by simp [h]
theorem Ints.open {fuel : Nat} {v : Value} {x : DataW H × List MemPlace} (h : DataW.trod enc Tryd.prog W 0 (fun _ => true) true fuel 38 [v] = some x) (hw : Light 38 x.1) :
    ∃ xs : List Int, Ints W v xs ∧ ∀ i ∈ xs, -9223372036854775808 ≤ i ∧ i ≤ 9223372036854775807 := by
  obtain ⟨n, m, V, D, Q, h1, h2⟩ := open_sl Tryd.underlying38 (by kernel_rfl) (of_decide_eq_true (by kernel_rfl)) h hw
  obtain ⟨Z, hZ⟩ := choose_lt (α := Int) (p := fun i z => V i = .int .i64 z ∧ -9223372036854775808 ≤ z ∧ z ≤ 9223372036854775807) (fun i hi => by
    obtain ⟨z, h4, _, h5⟩ := DataW.trod_int Tryd.underlying3 (h2 i hi).1
    refine ⟨z, by simpa using h4, ?_⟩
    have e1 : IntKind.i64.min = -9223372036854775808 := rfl
    have e2 : IntKind.i64.max = 9223372036854775807 := rfl
    simp only [Lit.wf, Bool.and_eq_true, decide_eq_true_eq] at h5
    omega)
  refine ⟨(List.range n).map Z, ?_, ?_⟩
  · unfold Ints
    rw [List.length_map, List.length_range]
    exact h1.congr fun j hj => (hZ j (by omega)).1.trans (by rw [range_getD _ _ _ _ (by omega)])
  · intro i hi
    obtain ⟨j, hj, rfl⟩ := List.mem_map.1 hi
    exact (hZ j (List.mem_range.1 hj)).2
theorem Bools.open {fuel : Nat} {v : Value} {x : DataW H × List MemPlace} (h : DataW.trod enc Tryd.prog W 0 (fun _ => true) true fuel 23 [v] = some x) (hw : Light 23 x.1) :
    ∃ xs : List Bool, Bools W v xs := by
  obtain ⟨n, m, V, D, Q, h1, h2⟩ := open_sl Tryd.underlying23 (by kernel_rfl) (of_decide_eq_true (by kernel_rfl)) h hw
  obtain ⟨Z, hZ⟩ := choose_lt (α := Bool) (p := fun i z => V i = .bool z) (fun i hi => by
    obtain ⟨z, h4, _⟩ := DataW.trod_bool Tryd.underlying4 (h2 i hi).1
    exact ⟨z, by simpa using h4⟩)
  refine ⟨(List.range n).map Z, ?_⟩
  unfold Bools
  rw [List.length_map, List.length_range]
  exact h1.congr fun j hj => (hZ j (by omega)).trans (by rw [range_getD _ _ _ _ (by omega)])
theorem Strs.open {fuel : Nat} {v : Value} {x : DataW H × List MemPlace} (h : DataW.trod enc Tryd.prog W 0 (fun _ => true) true fuel 22 [v] = some x) (hw : Light 22 x.1) :
    ∃ xs : List ByteArray, Strs W v xs := by
  obtain ⟨n, m, V, D, Q, h1, h2⟩ := open_sl Tryd.underlying22 (by kernel_rfl) (of_decide_eq_true (by kernel_rfl)) h hw
  obtain ⟨Z, hZ⟩ := choose_lt (α := ByteArray) (p := fun i z => V i = .string z ∧ z.size ≤ 140737488355328) (fun i hi => by
    obtain ⟨h3, h4⟩ := h2 i hi
    obtain ⟨z, h5, h6, _⟩ := DataW.trod_string Tryd.underlying9 h3
    simp only [Prod.mk.injEq] at h6
    rw [h6.1] at h4
    exact ⟨z, by simpa using h5, by simpa using light_string h4⟩)
  refine ⟨(List.range n).map Z, ?_, ?_⟩
  · rw [List.length_map, List.length_range]
    exact h1.congr fun j hj => (hZ j (by omega)).1.trans (by rw [range_getD _ _ _ _ (by omega)])
  · intro i hi
    obtain ⟨j, hj, rfl⟩ := List.mem_map.1 hi
    exact (hZ j (List.mem_range.1 hj)).2
theorem Tabs.open {fuel : Nat} {v : Value} {x : DataW H × List MemPlace} (h : DataW.trod enc Tryd.prog W 0 (fun _ => true) true fuel 24 [v] = some x) (hw : Light 24 x.1) :
    ∃ xs : List (List Int), Tabs W v xs ∧ ∀ r ∈ xs, ∀ i ∈ r, -9223372036854775808 ≤ i ∧ i ≤ 9223372036854775807 := by
  obtain ⟨n, m, V, D, Q, h1, h2⟩ := open_sl Tryd.underlying24 (by kernel_rfl) (of_decide_eq_true (by kernel_rfl)) h hw
  obtain ⟨Z, hZ⟩ := choose_lt (α := List Int) (p := fun i z => Ints W (V i) z ∧ ∀ i ∈ z, -9223372036854775808 ≤ i ∧ i ≤ 9223372036854775807) (fun i hi => Ints.open (h2 i hi).1 (h2 i hi).2)
  refine ⟨(List.range n).map Z, ⟨(List.range n).map V, ?_, by simp, ?_⟩, ?_⟩
  · rw [List.length_map, List.length_range]
    exact h1.congr fun j hj => by rw [range_getD _ _ _ _ (by omega)]
  · intro j hj
    have hj' : j < n := by simpa using hj
    rw [range_getD _ _ _ _ hj']
    simpa using (hZ j hj').1
  · intro i hi
    obtain ⟨j, hj, rfl⟩ := List.mem_map.1 hi
    exact (hZ j (List.mem_range.1 hj)).2
theorem Stm.open {v : Value} {d : DataW H} {ps : List MemPlace} (ho : ∃ cs, v = .agg cs ∧ cs.size = Tryd.prog.cellsOf 26) (h : DataW.Trod enc Tryd.prog W 0 (fun _ => true) true 26 v d ps) (hw : Light 26 d) :
    ∃ s, Stm W v s := by
  obtain ⟨⟨cl⟩, rfl, hsz⟩ := ho
  have hC : Tryd.prog.cellsOf 26 = 3 := by kernel_rfl
  rw [hC] at hsz
  obtain ⟨fuel, h⟩ := h
  match cl, hsz with
  | [nv, ev, pv], _ =>
    obtain ⟨y0, y1, y2, n, e, _, h0, h1, h2⟩ := trod_struct3 Tryd.underlying26 h
    simp only [Prod.mk.injEq] at e
    obtain ⟨rfl, rfl⟩ := e
    have c1 : Tryd.prog.cellsOf 22 = 1 := by kernel_rfl
    have c2 : Tryd.prog.cellsOf 23 = 1 := by kernel_rfl
    have c3 : Tryd.prog.cellsOf 24 = 1 := by kernel_rfl
    obtain ⟨xs, hx⟩ := Strs.open (v := nv) (by simpa [Value.cells, c1] using h0) (light_agg Tryd.underlying26 hw 0 rfl rfl)
    obtain ⟨ys, hy⟩ := Bools.open (v := ev) (by simpa [Value.cells, c2] using h1) (light_agg Tryd.underlying26 hw 1 rfl rfl)
    obtain ⟨zs, hz, _⟩ := Tabs.open (v := pv) (by simpa [Value.cells, c3] using h2) (light_agg Tryd.underlying26 hw 2 rfl rfl)
    exact ⟨⟨xs, ys, zs⟩, nv, ev, pv, rfl, hx, hy, hz⟩
end
section
variable {H : Type} {enc : TypeId × Value → H} {W : World}
theorem again_all (hl : laidOutB Tryd.prog = true) {W' : World} (hb : Below W.heap.size W W') : ∀ {ts : List TypeId} {vs : List Value} {ds : List (DataW H)} {ps : List MemPlace},
    (ts.all fun t => Tryd.prog.readableRec t && decide (t < Tryd.prog.types.size)) = true → DataW.TrodAll enc Tryd.prog W 0 (fun _ => true) true ts vs ds ps → (∀ x ∈ ps, x.block < W.heap.size) →
    DataW.TrodAll enc Tryd.prog W' 0 (fun b => decide (b < W.heap.size)) true ts vs ds ps := by
  intro ts
  induction ts with
  | nil => intro vs ds ps _ h _; obtain ⟨rfl, rfl, rfl⟩ := Go.ChangeShapes.trodAll_nil h; rfl
  | cons t ts ih =>
    intro vs ds ps ht h hlt
    obtain ⟨v, vs', d, ds', p, q, rfl, rfl, rfl, h1, h2⟩ := Go.ChangeShapes.trodAll_cons h
    simp only [List.all_cons, Bool.and_eq_true, decide_eq_true_eq] at ht
    exact ⟨p, q, Below.trod hl ht.1.1 ht.1.2 h1 hb (fun x hx => hlt x (List.mem_append_left _ hx)), ih (by simpa using ht.2) h2 (fun x hx => hlt x (List.mem_append_right _ hx)), rfl⟩
end
end Go.Proofs.YtpfemholpigdeaaDoor
