/-
  The statement of layer 38 that compares scores, assignments and choices with the reference's. No statement of the seat is proved here.
-/
import Derived.Test.YtmclgfipdgmomaaLa38
import Derived.Test.YtmclgfipdgmomaaRb38
namespace Go.Proofs.Ytmclgfipdgmomaa
open Go.RowKit

theorem scL_le (s : Stem) (st : List Int) : (scL s st).length ≤ 140737488355328 := by
  by_cases he : scE s st = 0
  · rw [scL_ok he, best1_len]
    obtain ⟨hc, _⟩ := scE_zero he
    have h1 := chkC_le hc
    have h2 := (stCheck_len s (chkC_zero hc).1).2.1
    omega
  · rw [scL_bad he]; simp
theorem chcL_le (s : Stem) (st : List Int) (h : chcE s st = 0) : (copN s.par s.par.length).length ≤ 140737488355328 := by
  have h0 : chkC s st = 0 := by
    unfold chcE at h
    split at h
    · omega
    · omega
  have h1 := chkC_le h0
  have h2 := (stCheck_len s (chkC_zero h0).1).2.1
  have h3 := copN_len s.par s.par.length
  omega
theorem ChcR.told {s : Stem} {st : List Int} {u : Value} {L : List Res} (h : ChcR s st u L) : ∃ a n c l, u = .tuple #[.slice a n c, .int .i64 (chcE s st)] ∧ n = l.length ∧ n ≤ 140737488355328 ∧ l = (if chcE s st = 0 then chcL s st else []) ∧ ((chcE s st ≠ 0 ∧ a = none ∧ n = 0 ∧ c = 0 ∧ L = []) ∨ (chcE s st = 0 ∧ L = [.row 44 2 (.slice a n c) n (cells2 l)])) := by
  rcases h with ⟨h1, h2, h3⟩ | ⟨h1, a, n, c, h2, h3, h4⟩
  · exact ⟨none, 0, 0, [], h2, rfl, by omega, by rw [if_neg h1], .inl ⟨h1, rfl, rfl, rfl, h3⟩⟩
  · refine ⟨a, n, c, chcL s st, by rw [h1]; exact h2, by rw [chcL_len]; exact h3, by rw [h3]; exact chcL_le s st h1, by rw [if_pos h1], .inr ⟨h1, by rw [← chcC_list]; exact h4⟩⟩
/-- What choices own, in one form. -/
theorem ChcR.ent {s : Stem} {st : List Int} {w0 : World} {u : Value} {L : List Res} (h : ChcR s st u L) : ∃ a n c l, u = .tuple #[.slice a n c, .int .i64 (chcE s st)] ∧ n = l.length ∧ n ≤ 140737488355328 ∧ l = (if chcE s st = 0 then chcL s st else []) ∧ Ent w0 L [.row 44 2 (.slice a n c) n (cells2 l)] := by
  obtain ⟨a, n, c, l, h1, h2, h3, h4, ⟨h5, rfl, rfl, rfl, rfl⟩ | ⟨h5, rfl⟩⟩ := h.told
  · obtain rfl : l = [] := List.eq_nil_of_length_eq_zero h2.symm
    exact ⟨none, 0, 0, [], h1, rfl, by omega, h4, Ent.mk fun w hp => hp.nil 44 2⟩
  · exact ⟨a, n, c, l, h1, h2, h3, h4, Ent.refl _ _⟩
def ChcT (s : Stem) (st : List Int) (u : Value) (L : List Res) : Prop := ∃ a n c l, u = .tuple #[.slice a n c, .int .i64 (chcE s st)] ∧ n = l.length ∧ n ≤ 140737488355328 ∧ l = (if chcE s st = 0 then chcL s st else []) ∧ L = [.row 44 2 (.slice a n c) n (cells2 l)]
theorem ChcT.of {f : FuncId} {args : List Value} {w : World} {s : Stem} {st : List Int} (h : Sat Try.prog f args w (ChcR s st)) : Sat Try.prog f args w (ChcT s st) :=
  ⟨h.enters, fun w1 hp => (h.calls w1 hp).mono fun e w' ⟨v, L', h1, h2, h3⟩ => by
    obtain ⟨a, n, c, l, h4, h5, h6, h7, h8⟩ := h3.ent (w0 := w)
    exact ⟨v, _, h1, h8.use _ h2, a, n, c, l, h4, h5, h6, h7, rfl⟩⟩
set_option maxRecDepth 100000 in
set_option maxHeartbeats 4000000 in
theorem ContaminationScores_sat (v sv : Value) (s : Stem) (st : List Int) (w : World) (h : Stm w v s) (hs : Ints w sv st) : SatV Try.prog 3 [v, sv] w (.bool true) := by
  have hst := h
  obtain ⟨nv, ev, pv, rfl, _, _, _⟩ := h
  have hL := scL_le s st
  refine SatL.of 97 [4] Try.func3 (by kernel_rfl) (by kernel_rfl) rfl rfl rfl rfl ?_
  repeat' (first | (apply OK_seq) | (apply thenQ_n) | (apply OK_region) | (refine OKx_callB (f := 15) (b := great38 s st) rfl rfl rfl (fun w1 hp => Great38_sat _ _ s st w1 (hst.below hp.below) (hs.below hp.below)) ?_ ?_ <;> intro hg) | (refine OKx_callV (f := 16) rfl rfl rfl (fun w1 hp => awake38_sat w1) ?_) | (refine OKx_callV (f := 17) rfl rfl rfl (fun w1 hp => Score_sat _ _ s st w1 (hst.below hp.below) (hs.below hp.below)) ?_) | (refine OKx_callV (f := 18) rfl rfl rfl (fun w1 hp => rScore_sat _ _ s st w1 (hst.below hp.below) (hs.below hp.below)) ?_) | (refine OKx_call (f := 19) rfl rfl (fun w1 hp => Assign_sat _ _ s st w1 (hst.below hp.below) (hs.below hp.below)) ?_; rintro _ _ ⟨a1, n1, c1, rfl, hn1, rfl⟩) | (refine OKx_call (f := 20) rfl rfl (fun w1 hp => rAssign_sat _ _ s st w1 (hst.below hp.below) (hs.below hp.below)) ?_; rintro _ _ ⟨a2, n2, c2, rfl, hn2, rfl⟩) | (refine OKx_call (f := 21) rfl rfl (fun w1 hp => ChcT.of (Choices_sat _ _ s st w1 (hst.below hp.below) (hs.below hp.below))) ?_; rintro _ _ ⟨a3, n3, c3, l3, rfl, hn3, hb3, he3, rfl⟩) | (refine OKx_call (f := 22) rfl rfl (fun w1 hp => ChcT.of (rChoices_sat _ _ s st w1 (hst.below hp.below) (hs.below hp.below))) ?_; rintro _ _ ⟨a4, n4, c4, l4, rfl, hn4, hb4, he4, rfl⟩) | (refine OKx_callV (f := 23) rfl rfl rfl (fun w1 hp => Chk_sat _ _ s st w1 (hst.below hp.below) (hs.below hp.below)) ?_) | (refine OKx_callV (f := 24) rfl rfl rfl (fun w1 hp => rChk_sat _ _ s st w1 (hst.below hp.below) (hs.below hp.below)) ?_) | (refine OKx_callV (f := 25) (v := .bool true) rfl rfl rfl (fun w1 hp => equalT_sat _ _ (scL s st) (scL s st) w1 (hp.ints 3 rfl (by omega)) (hp.ints 2 rfl (by omega)) rfl) ?_) | (refine OKx_callV (f := 26) (v := .bool (decide (l3 = l4))) rfl rfl rfl (fun w1 hp => Same_sat _ _ l3 l4 w1 (hp.chs 1 rfl hn3 hb3) (hp.chs 0 rfl hn4 hb4)) ?_; rw [show decide (l3 = l4) = true from decide_eq_true (he3.trans he4.symm)]) | refine OK_quiet (id := 9) (by kernel_rfl) (by kernel_rfl) ?_ | (apply OKx_nilK) | (apply OK_block) | (apply blockQ_n) | (apply blockQ_s) | (apply thenQ_e) | (apply blockQ_e; (focus exact rfl)) | (apply thenQ_r) | (apply blockQ_r) | (apply OK_condT; (focus exact rfl)) | (apply OK_condF; (focus exact rfl)) | (apply OK_skip) | (apply OK_exit) | (apply OK_ret) | (apply OKx_move; (focus ((conv => lhs; whnf) <;> exact rfl))) | (apply OKx_assign; (focus ((conv => lhs; whnf) <;> exact rfl))) | (apply OKx_eql; (focus exact rfl); (focus exact rfl); all_goals (intro _; try (exfalso; omega))) | (apply OKx_pickT; (focus exact rfl); (focus ((conv => lhs; whnf) <;> exact rfl))) | (apply OKx_pickF; (focus exact rfl); (focus ((conv => lhs; whnf) <;> exact rfl))) | (apply OKx_guardT; (focus exact rfl); (focus exact rfl)) | (apply OKx_guardF; (focus exact rfl); (focus exact rfl)) | (apply OKx_guardU; (focus exact rfl); (focus exact rfl)) | (apply OKx_extract; (focus exact rfl); (focus ((conv => lhs; whnf) <;> exact rfl))) | (apply OKx_boxA; (focus exact rfl); intro _) | (apply OKx_ldBA; (focus exact rfl); (focus first | exact at0 | exact at1 | exact at2 | exact at3 | exact at4 | exact at5 | exact at6 | exact at7); (focus exact rfl)) | (apply OKx_ldRA; (focus ((conv => lhs; whnf) <;> exact rfl)); (focus with_reducible assumption)))
  all_goals
    first | refine bodyQ_r1 (by ((conv => lhs; whnf) <;> exact rfl)) ?_ | refine bodyQ_r2 (by ((conv => lhs; whnf) <;> exact rfl)) (by ((conv => lhs; whnf) <;> exact rfl)) ?_ | refine bodyQ_r3 (by ((conv => lhs; whnf) <;> exact rfl)) (by ((conv => lhs; whnf) <;> exact rfl)) (by ((conv => lhs; whnf) <;> exact rfl)) ?_ | refine bodyQ_r0 ?_ | refine bodyQ_n0 ?_
    exact ⟨_, Ent.nil, rfl, rfl⟩
#print axioms ContaminationScores_sat
end Go.Proofs.Ytmclgfipdgmomaa
