/-
  Consistent, Verify and Possible equal the reference's. No statement of the seat is proved here.
-/
import Derived.Test.YtpbohmddbfaiiaaRco
import Derived.Test.YtpbohmddbfaiiaaPsx
namespace Go.Proofs.Ytpbohmddbfaiiaa
open Go.RowKit Go.Maps

/-- What Consistent answers, as a relation that holds of one answer alone. -/
def ConsS (s : Stem) (ds : List Dt) (l : List Int) (b : Bool) (e : Int) : Prop :=
  (dCheck s ds ≠ 0 ∧ l = [] ∧ b = false ∧ e = 1) ∨
  (dCheck s ds = 0 ∧ e = 0 ∧ ((b = false ∧ ∃ i j, i < j ∧ j < s.names.length ∧ bad s ds i j = true ∧ noBad s ds i j ∧ l = pathL s.par i j) ∨ (b = true ∧ noBad s ds s.names.length 0 ∧ l = [])))
theorem ConsS.uniq {s : Stem} {ds : List Dt} {l l' : List Int} {b b' : Bool} {e e' : Int} (h : ConsS s ds l b e) (h' : ConsS s ds l' b' e') : l = l' ∧ b = b' ∧ e = e' := by
  rcases h with ⟨h0, rfl, rfl, rfl⟩ | ⟨h0, rfl, h⟩ <;> rcases h' with ⟨h0', rfl, rfl, rfl⟩ | ⟨h0', rfl, h'⟩
  · exact ⟨rfl, rfl, rfl⟩
  · exact absurd h0' h0
  · exact absurd h0 h0'
  rcases h with ⟨rfl, i, j, h1, h2, h3, h4, rfl⟩ | ⟨rfl, h1, rfl⟩ <;> rcases h' with ⟨rfl, i', j', h1', h2', h3', h4', rfl⟩ | ⟨rfl, h1', rfl⟩
  · have a := h4 i' j' h1' h2'
    have b := h4' i j h1 h2
    have : i = i' ∧ j = j' := by
      rcases Nat.lt_trichotomy i i' with h | h | h
      · have := b (.inl h); rw [this] at h3; cases h3
      · subst h
        rcases Nat.lt_trichotomy j j' with h | h | h
        · have := b (.inr ⟨rfl, h⟩); rw [this] at h3; cases h3
        · exact ⟨rfl, h⟩
        · have := a (.inr ⟨rfl, h⟩); rw [this] at h3'; cases h3'
      · have := a (.inl h); rw [this] at h3'; cases h3'
    rw [this.1, this.2]
    exact ⟨rfl, rfl, rfl⟩
  · have := h1' i j h1 h2 (.inl (by omega))
    rw [this] at h3; cases h3
  · have := h1 i' j' h1' h2' (.inl (by omega))
    rw [this] at h3'; cases h3'
  · exact ⟨rfl, rfl, rfl⟩
def ConsQ (s : Stem) (ds : List Dt) (u : Value) (L : List Res) : Prop := ∃ v l b e, u = .tuple #[v, .bool b, .int .i64 e] ∧ ConsS s ds l b e ∧ ∀ w0 w : World, Hp w0.heap.size w0 w L → Ints w v l
theorem pthR_le (par : List (List Int)) (n b : Nat) (l : List Bool) : ∀ f q, (pthR par n b l f q).length ≤ f := by
  intro f
  induction f with
  | zero => intro q; simp [pthR]
  | succ f ih =>
    intro q
    rw [pthR]
    split
    · simp
    · split
      · rw [List.length_cons]; have := ih (‹Int›).toNat; omega
      · simp
theorem path_small (s : Stem) (i j : Nat) (h : stCheck s = 0) : (pathL s.par i j).length ≤ 1000 := by
  obtain ⟨_, hn64, _, hpl, _⟩ := stCheck_len s h
  have := pthR_le s.par s.par.length j (leads s.par j) s.par.length i
  rw [pathL, List.length_cons]; omega
set_option maxRecDepth 100000 in
set_option maxHeartbeats 4000000 in
theorem ConsQ_sat (v dv : Value) (s : Stem) (ds : List Dt) (w : World) (h : Stm w v s) (hd : Dats w dv ds) : Sat Try.prog 15 [v, dv] w (ConsQ s ds) :=
  (Cons_sat v dv s ds w h hd).mono fun u L hR => by
    rcases hR with ⟨h0, rfl, rfl⟩ | ⟨h0, ⟨i, j, cv, h1, h2, h3, h4, rfl, rfl⟩ | ⟨h1, rfl, rfl⟩⟩
    · exact ⟨_, [], _, _, rfl, .inl ⟨h0, rfl, rfl, rfl⟩, fun _ w1 _ => Ints.nil w1⟩
    · exact ⟨_, _, _, _, rfl, .inr ⟨h0, rfl, .inl ⟨rfl, i, j, h1, h2, h3, h4, rfl⟩⟩, fun _ w1 hp => hp.ints 0 rfl (by have := path_small s i j (dCheck_zero s ds h0).1; omega)⟩
    · exact ⟨_, [], _, _, rfl, .inr ⟨h0, rfl, .inr ⟨rfl, h1, rfl⟩⟩, fun _ w1 _ => Ints.nil w1⟩
set_option maxRecDepth 100000 in
set_option maxHeartbeats 4000000 in
theorem rConsQ_sat (v dv : Value) (s : Stem) (ds : List Dt) (w : World) (h : Stm w v s) (hd : Dats w dv ds) : Sat Try.prog 34 [v, dv] w (ConsQ s ds) :=
  (rCons_sat v dv s ds w h hd).mono fun u L hR => by
    rcases hR with ⟨h0, cv, rfl, rfl⟩ | ⟨h0, ⟨i, j, cv, h1, h2, h3, h4, rfl, rfl⟩ | ⟨h1, cv, rfl, rfl⟩⟩
    · exact ⟨_, [], _, _, rfl, .inl ⟨h0, rfl, rfl, rfl⟩, fun _ w1 hp => hp.ints 0 rfl (by simp)⟩
    · exact ⟨_, _, _, _, rfl, .inr ⟨h0, rfl, .inl ⟨rfl, i, j, h1, h2, h3, h4, rfl⟩⟩, fun _ w1 hp => hp.ints 0 rfl (by have := path_small s i j (dCheck_zero s ds h0).1; omega)⟩
    · exact ⟨_, [], _, _, rfl, .inr ⟨h0, rfl, .inr ⟨rfl, h1, rfl⟩⟩, fun _ w1 hp => hp.ints 0 rfl (by simp)⟩
/-- '==' of two equal bools. -/
theorem OKx_beqT {P : Program} {n : Nat} {w0 : World} {K : Fm → List Res → Prop} {F : Fm} {L : List Res} {m : Md} {ops : Array Oper} {rest : List Oper} {d : Option Nat} {ty : TypeId} {pos : String} {aft : Array Edge} {t ut : TypeId} {x y : Operand} {a : Bool}
    (ht : P.underlying t = some .bool) (hx : rv n F x = .bool a) (hy : rv n F y = .bool a) (kk : OKx P n w0 m ops K rest (updo F d (.bool true)) L) : OKx P n w0 m ops K (⟨d, .binOp .eql t x y ut, ty, pos, aft, none⟩ :: rest) F L :=
  OKx_still (fun w _ _ _ _ _ => by
    have hg : (eqGuard .eql t x y (.bool a) (.bool a)).run P w = .ok () w := by simp [eqGuard]
    have h := run_eql_bool (P := P) (w := w) t a a ht
    simp [execOp, hx, hy, Sem.run_bind, hg, h, Result.andThen]) kk
theorem OKx_beq {P : Program} {n : Nat} {w0 : World} {K : Fm → List Res → Prop} {F : Fm} {L : List Res} {m : Md} {ops : Array Oper} {rest : List Oper} {d : Option Nat} {ty : TypeId} {pos : String} {aft : Array Edge} {t ut : TypeId} {x y : Operand} {a b : Bool}
    (ht : P.underlying t = some .bool) (hx : rv n F x = .bool a) (hy : rv n F y = .bool b) (kk : OKx P n w0 m ops K rest (updo F d (.bool (a == b))) L) : OKx P n w0 m ops K (⟨d, .binOp .eql t x y ut, ty, pos, aft, none⟩ :: rest) F L :=
  OKx_still (fun w _ _ _ _ _ => by
    have hg : (eqGuard .eql t x y (.bool a) (.bool b)).run P w = .ok () w := by simp [eqGuard]
    have h := run_eql_bool (P := P) (w := w) t a b ht
    simp [execOp, hx, hy, Sem.run_bind, hg, h, Result.andThen]) kk
theorem OKx_ieqT {P : Program} {n : Nat} {w0 : World} {K : Fm → List Res → Prop} {F : Fm} {L : List Res} {m : Md} {ops : Array Oper} {rest : List Oper} {d : Option Nat} {ty : TypeId} {pos : String} {aft : Array Edge} {t ut : TypeId} {x y : Operand} {k : IntKind} {a : Int}
    (hx : rv n F x = .int k a) (hy : rv n F y = .int k a) (kk : OKx P n w0 m ops K rest (updo F d (.bool true)) L) : OKx P n w0 m ops K (⟨d, .binOp .eql t x y ut, ty, pos, aft, none⟩ :: rest) F L :=
  OKx_eql hx hy (fun _ => kk) (fun h => absurd rfl h)
set_option maxRecDepth 100000 in
set_option maxHeartbeats 4000000 in
theorem DatingPaths_sat (v dv lv : Value) (s : Stem) (ds : List Dt) (l : List Int) (c p : Int) (w : World) (h : Stm w v s) (hd : Dats w dv ds) (hl : Ints w lv l) : SatV Try.prog 10 [v, dv, lv, .int .i64 c, .int .i64 p] w (.bool true) := by
  have hst := h
  obtain ⟨nv, ev, pv, rfl, hS, _, hP⟩ := h
  have hlv := hl.sl
  refine SatL.of 97 [10] Try.func10 (by kernel_rfl) (by kernel_rfl) rfl rfl rfl rfl ?_
  repeat' (first | (apply OK_seq) | (apply thenQ_n) | (apply OK_region) | (apply OKx_guardU; (focus exact rfl); (focus exact rfl)) | (refine OKx_callB (f := 19) rfl rfl rfl (fun w hp => Great_sat _ _ s ds w (hst.below hp.below) (hd.below hp.below)) ?_ ?_ <;> intro hg) | refine OKx_callV (f := 12) rfl rfl rfl (fun w hp => awake_sat w) ?_ | refine OKx_beqT Try.underlying4 rfl rfl ?_ | refine OKx_ieqT rfl rfl ?_ | (refine OKx_call (f := 15) rfl rfl (fun w hp => ConsQ_sat _ _ s ds w (hst.below hp.below) (hd.below hp.below)) ?_; rintro _ La ⟨va, la, ba, ea, rfl, hSa, hIa⟩; refine OKx_ent (Ent.perm List.perm_middle) ?_) | (refine OKx_call (f := 34) rfl rfl (fun w hp => rConsQ_sat _ _ s ds w (hst.below hp.below) (hd.below hp.below)) ?_; rintro _ Lb ⟨vb, lb, bb, eb, rfl, hSb, hIb⟩; obtain ⟨rfl, rfl, rfl⟩ := hSa.uniq hSb; refine OKx_ent (Ent.perm List.perm_middle) ?_) | (refine OKx_call (f := 32) rfl rfl (fun w hp => Poss_sat _ _ s ds c p w (hst.below hp.below) (hd.below hp.below)) ?_; rintro _ Lc rfl; refine OKx_ent (Ent.sub (List.sublist_append_right _ _)) ?_) | (refine OKx_call (f := 35) rfl rfl (fun w hp => rPoss_sat _ _ s ds c p w (hst.below hp.below) (hd.below hp.below)) ?_; rintro _ Lc rfl; refine OKx_ent (Ent.sub (List.sublist_append_right _ _)) ?_) | refine OKx_callV (f := 31) rfl rfl rfl (fun w hp => Ver_sat _ _ _ s ds l w (hst.below hp.below) (hd.below hp.below) (hl.below hp.below)) ?_ | refine OKx_callV (f := 36) rfl rfl rfl (fun w hp => rVer_sat _ _ _ s ds l w (hst.below hp.below) (hd.below hp.below) (hl.below hp.below)) ?_ | refine OKx_callV (f := 26) (v := .bool true) rfl rfl rfl (fun w1 hp => equal_true_sat _ _ la la w1 (hIa _ w1 (hp.sub (((List.sublist_append_left La _).trans (List.sublist_append_right Lb _)).cons _))) (hIb _ w1 (hp.sub ((List.sublist_append_left Lb _).cons _))) rfl) ?_ | refine OK_quiet (id := 7) (by kernel_rfl) (by kernel_rfl) ?_ | (apply OKx_nilK) | (apply OK_block) | (apply blockQ_n) | (apply blockQ_s) | (apply thenQ_e) | (apply blockQ_e; (focus exact rfl)) | (apply thenQ_r) | (apply blockQ_r) | (apply OK_condT; (focus exact rfl)) | (apply OK_condF; (focus exact rfl)) | (apply OK_skip) | (apply OK_exit) | (apply OK_ret) | (apply OKx_move; (focus ((conv => lhs; whnf) <;> exact rfl))) | (apply OKx_assign; (focus ((conv => lhs; whnf) <;> exact rfl))) | (apply OKx_ldB; (focus exact rfl); (focus first | exact at0 | exact at1 | exact at2 | exact at3 | exact at4 | exact at5 | exact at6 | exact at7); (focus exact rfl)) | (apply OKx_ldR; (focus ((conv => lhs; whnf) <;> exact rfl)); (focus with_reducible assumption)) | (apply OKx_ldI; (focus exact rfl); (focus first | exact at0 | exact at1 | exact at2 | exact at3 | exact at4 | exact at5 | exact at6 | exact at7); (focus omega)) | (apply OKx_len; (focus exact rfl)) | (apply OKx_lenR; (focus ((conv => lhs; whnf) <;> exact rfl)); (focus with_reducible assumption)) | (apply OKx_lenR2; (focus ((conv => lhs; whnf) <;> exact rfl)); (focus with_reducible assumption)) | (apply OKx_lenO; (focus ((conv => lhs; whnf) <;> exact rfl)); (focus first | exact at0 | exact at1 | exact at2 | exact at3 | exact at4 | exact at5 | exact at6 | exact at7)) | (apply OKx_lenS; (focus exact rfl)) | (apply OKx_lss; (focus exact rfl); (focus exact rfl); all_goals (intro _; try (exfalso; omega))) | (apply OKx_leq; (focus exact rfl); (focus exact rfl); all_goals (intro _; try (exfalso; omega))) | (apply OKx_gtr; (focus exact rfl); (focus exact rfl); all_goals (intro _; try (exfalso; omega))) | (apply OKx_geq; (focus exact rfl); (focus exact rfl); all_goals (intro _; try (exfalso; omega))) | (apply OKx_eql; (focus exact rfl); (focus exact rfl); all_goals (intro _; try (exfalso; omega))) | (apply OKx_neq; (focus exact rfl); (focus exact rfl); all_goals (intro _; try (exfalso; omega))) | (apply OKx_seql; (focus exact rfl); (focus exact rfl); all_goals intro _) | (apply OKx_sneq; (focus exact rfl); (focus exact rfl); all_goals intro _) | (apply OKx_idxO; (focus exact rfl); (focus exact rfl); (focus omega)) | (apply OKx_idxR; (focus ((conv => lhs; whnf) <;> exact rfl)); (focus with_reducible assumption); (focus exact rfl); (focus omega); intro _ _) | (apply OKx_idxR2; (focus ((conv => lhs; whnf) <;> exact rfl)); (focus with_reducible assumption); (focus exact rfl); (focus omega); intro _ _) | (apply OKx_idxOz; (focus exact rfl); (focus exact rfl); (focus omega); (focus omega)) | (apply OKx_idxRz; (focus ((conv => lhs; whnf) <;> exact rfl)); (focus with_reducible assumption); (focus exact rfl); (focus omega); (focus omega); intro _ _) | (apply OKx_idxS; (focus exact rfl); (focus exact rfl); (focus omega)) | (apply OKx_fldO; (focus exact rfl); (focus exact rfl)) | (apply OKx_fldR; (focus ((conv => lhs; whnf) <;> exact rfl)); (focus with_reducible assumption); (focus decide); intro _ _) | (apply OKx_inc; (focus exact rfl); (focus exact rfl); (focus omega)) | (apply OKx_addN; (focus exact rfl); (focus exact rfl); (focus omega)) | (apply OKx_add; (focus exact rfl); (focus exact rfl); (focus omega); (focus omega)) | (apply OKx_dec; (focus exact rfl); (focus exact rfl); (focus omega); (focus omega)) | (apply OKx_subN; (focus exact rfl); (focus exact rfl); (focus omega); (focus omega)) | (apply OKx_sub; (focus exact rfl); (focus exact rfl); (focus omega); (focus omega)) | (apply OKx_max; (focus exact rfl); (focus exact rfl)) | (apply OKx_min; (focus exact rfl); (focus exact rfl)) | (apply OKx_pickT; (focus exact rfl); (focus ((conv => lhs; whnf) <;> exact rfl))) | (apply OKx_pickF; (focus exact rfl); (focus ((conv => lhs; whnf) <;> exact rfl))) | (apply OKx_guardT; (focus exact rfl); (focus exact rfl)) | (apply OKx_guardF; (focus exact rfl); (focus exact rfl)) | (apply OKx_notT; (focus exact rfl)) | (apply OKx_notF; (focus exact rfl)) | (apply OKx_extract; (focus exact rfl); (focus ((conv => lhs; whnf) <;> exact rfl))) | (apply OKx_boxA; (focus exact rfl); intro _) | (apply OKx_alloc1; intro _) | (apply OKx_allocA; intro _) | (apply OKx_ldBA; (focus exact rfl); (focus first | exact at0 | exact at1 | exact at2 | exact at3 | exact at4 | exact at5 | exact at6 | exact at7); (focus exact rfl)) | (apply OKx_ldRA; (focus ((conv => lhs; whnf) <;> exact rfl)); (focus with_reducible assumption)) | (apply OKx_stI; (focus exact rfl); (focus exact rfl); (focus first | exact at0 | exact at1 | exact at2 | exact at3 | exact at4 | exact at5 | exact at6 | exact at7); (focus omega); (focus exact rfl)) | (apply OKx_stB; (focus exact rfl); (focus ((conv => lhs; whnf) <;> exact rfl)); (focus exact rfl); (focus exact rfl); (focus first | exact at0 | exact at1 | exact at2 | exact at3 | exact at4 | exact at5 | exact at6 | exact at7); (focus exact rfl); (focus exact rfl); (focus exact rfl)) | (apply OKx_ldBo; (focus exact rfl); (focus first | exact at0 | exact at1 | exact at2 | exact at3 | exact at4 | exact at5 | exact at6 | exact at7); (focus omega)) | (apply OKx_stBo; (focus exact rfl); (focus exact rfl); (focus first | exact at0 | exact at1 | exact at2 | exact at3 | exact at4 | exact at5 | exact at6 | exact at7); (focus omega); (focus exact rfl)) | (apply OKx_slit1; (focus ((conv => lhs; whnf) <;> exact rfl)); (focus exact rfl); intro _) | (apply OKx_slit0; intro _) | (apply OKx_slit3; (focus ((conv => lhs; whnf) <;> exact rfl)); (focus ((conv => lhs; whnf) <;> exact rfl)); (focus ((conv => lhs; whnf) <;> exact rfl)); (focus exact rfl); (focus exact rfl); (focus exact rfl); intro _) | (apply OKx_slit2; (focus ((conv => lhs; whnf) <;> exact rfl)); (focus ((conv => lhs; whnf) <;> exact rfl)); (focus exact rfl); (focus exact rfl); intro _) | (apply OKx_box1; (focus ((conv => lhs; whnf) <;> exact rfl)); (focus exact rfl); intro _) | (apply OKx_func; (focus exact rfl); (focus exact rfl)) | (apply OKx_build3; (focus ((conv => lhs; whnf) <;> exact rfl)); (focus ((conv => lhs; whnf) <;> exact rfl)); (focus ((conv => lhs; whnf) <;> exact rfl)); (focus exact rfl); (focus exact rfl); (focus exact rfl)) | (apply OKx_build2; (focus ((conv => lhs; whnf) <;> exact rfl)); (focus ((conv => lhs; whnf) <;> exact rfl)); (focus exact rfl); (focus exact rfl)) | (apply OKx_stBA; (focus kernel_rfl); (focus exact rfl); (focus exact rfl); (focus exact rfl); (focus first | exact at0 | exact at1 | exact at2 | exact at3 | exact at4 | exact at5 | exact at6 | exact at7); (focus exact rfl); (focus exact rfl); (focus exact rfl)) | (apply OKx_nilCheck; (focus exact rfl)) | (apply OKx_field1; (focus exact rfl); (focus ((conv => lhs; whnf) <;> exact rfl))))
  all_goals
    first | refine bodyQ_r1 (by ((conv => lhs; whnf) <;> exact rfl)) ?_ | refine bodyQ_r2 (by ((conv => lhs; whnf) <;> exact rfl)) (by ((conv => lhs; whnf) <;> exact rfl)) ?_ | refine bodyQ_r3 (by ((conv => lhs; whnf) <;> exact rfl)) (by ((conv => lhs; whnf) <;> exact rfl)) (by ((conv => lhs; whnf) <;> exact rfl)) ?_ | refine bodyQ_r0 ?_ | refine bodyQ_n0 ?_
    exact ⟨_, Ent.nil, rfl, rfl⟩
#print axioms DatingPaths_sat
end Go.Proofs.Ytpbohmddbfaiiaa
