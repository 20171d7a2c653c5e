/-
  Part 19 of the proof: Cons, Del, Ps37, Lawb37, Lawd37, Lawe37, Rpa, Td37. No statement of the seat is proved here.
-/
import Derived.Test.YtpfemholpigdeaaDoorMHTr3718
namespace Go.Proofs.YtpfemholpigdeaaDoor
open Go.RowKit Go.Maps
def bad (s : Stem) (ds : List Dt) (a b : Nat) : Bool := decide ((hiOf s.names.length ds).getD b 0 < (loOf s.names.length ds).getD a 0) && (leads s.par b).getD a false
def noBad (s : Stem) (ds : List Dt) (a b : Nat) : Prop := ∀ a' b', a' < b' → b' < s.names.length → (a' < a ∨ (a' = a ∧ b' < b)) → bad s ds a' b' = false
def ConsR (s : Stem) (ds : List Dt) (u : Value) (L : List Res) : Prop :=
  (dCheck s ds ≠ 0 ∧ u = .tuple #[.slice none 0 0, .bool false, .int .i64 1] ∧ L = []) ∨
  (dCheck s ds = 0 ∧ ((∃ a b v, a < b ∧ b < s.names.length ∧ bad s ds a b = true ∧ noBad s ds a b ∧ u = .tuple #[v, .bool false, .int .i64 0] ∧ L = [irow v (pathL s.par a b)]) ∨
    (noBad s ds s.names.length 0 ∧ u = .tuple #[.slice none 0 0, .bool true, .int .i64 0] ∧ L = [])))
theorem noBad_step (s : Stem) (ds : List Dt) (a b : Nat) (h : noBad s ds a b) (hb : bad s ds a b = false) : noBad s ds a (b + 1) := by
  intro a' b' h1 h2 h3
  by_cases he : a' = a ∧ b' = b
  · rw [he.1, he.2]; exact hb
  · exact h a' b' h1 h2 (by omega)
theorem noBad_row (s : Stem) (ds : List Dt) (a b : Nat) (h : noBad s ds a b) (hb : s.names.length ≤ b) : noBad s ds (a + 1) 0 := by
  intro a' b' h1 h2 h3
  exact h a' b' h1 h2 (by omega)
theorem noBad_in (s : Stem) (ds : List Dt) (a : Nat) (h : noBad s ds a 0) : noBad s ds a (a + 1) := by
  intro a' b' h1 h2 h3
  exact h a' b' h1 h2 (by omega)
set_option maxRecDepth 100000 in
set_option maxHeartbeats 4000000 in
theorem Cons_sat (v dv : Value) (s : Stem) (ds : List Dt) (w : World) (h : Stm w v s) (hd : Dats w dv ds) : Sat Tryd.prog 34 [v, dv] w (ConsR s ds) := by
  have hst := h
  obtain ⟨nv, ev, pv, rfl, hS, _, hP⟩ := h
  by_cases h0 : dCheck s ds = 0
  case neg =>
    refine SatL.of 55 [4, 5, 6] Tryd.func34 (by kernel_rfl) (by kernel_rfl) rfl rfl rfl rfl ?_
    repeat' (first|(apply OK_seq)|(apply thenQ_n)|(apply OK_region)|(apply OKx_gc 63;exact rfl; refine OKx_callV (f := 63) rfl rfl rfl (fun w hp => dCheck_sat _ _ s ds w (hst.below hp.below) (hd.below hp.below)) ?_)|(refine OK_rid 10 ?_; refine OK_quiet (id := 10) (by kernel_rfl) (by kernel_rfl) ?_)|(apply OKx_nilK)|(apply OK_block)|(apply blockQ_n)|(apply blockQ_s)|(apply thenQ_e)|(apply blockQ_e;exact rfl)|(apply thenQ_r)|(apply blockQ_r)|(apply OK_condT;exact rfl)|(apply OK_condF;exact rfl)|(apply OK_skip)|(apply OK_exit)|(apply OK_ret)|(apply OKx_move;(conv=>lhs;whnf)<;>exact rfl)|(apply OKx_assign;(conv=>lhs;whnf)<;>exact rfl)|(apply OKx_ldB;exact rfl;(first | exact at0|exact at1|exact at2|exact at3|exact at4|exact at5|exact at6|exact at7);exact rfl)|(apply OKx_ldR;(conv=>lhs;whnf)<;>exact rfl;(with_reducible assumption))|(apply OKx_ldI;exact rfl;(first | exact at0|exact at1|exact at2|exact at3|exact at4|exact at5|exact at6|exact at7);omega)|(apply OKx_len;exact rfl)|(apply OKx_lenR;(conv=>lhs;whnf)<;>exact rfl;(with_reducible assumption))|(apply OKx_lenR2;(conv=>lhs;whnf)<;>exact rfl;(with_reducible assumption))|(apply OKx_lenO;(conv=>lhs;whnf)<;>exact rfl;(first | exact at0|exact at1|exact at2|exact at3|exact at4|exact at5|exact at6|exact at7))|(apply OKx_lss;exact rfl;exact rfl;all_goals (intro _; try (exfalso;omega)))|(apply OKx_leq;exact rfl;exact rfl;all_goals (intro _; try (exfalso;omega)))|(apply OKx_neq;exact rfl;exact rfl;all_goals (intro _; try (exfalso;omega)))|(apply OKx_idxO;exact rfl;exact rfl;omega)|(apply OKx_idxR;(conv=>lhs;whnf)<;>exact rfl;(with_reducible assumption);exact rfl;omega;intro _ _)|(apply OKx_idxOz;exact rfl;exact rfl;omega;omega)|(apply OKx_idxRz;(conv=>lhs;whnf)<;>exact rfl;(with_reducible assumption);exact rfl;omega;omega;intro _ _)|(apply OKx_inc;exact rfl;exact rfl;omega)|(apply OKx_addN;exact rfl;exact rfl;omega)|(apply OKx_add;exact rfl;exact rfl;omega;omega)|(apply OKx_extract;exact rfl;(conv=>lhs;whnf)<;>exact rfl)|(apply OKx_boxA;exact rfl;intro _)|(apply OKx_ldBA;exact rfl;(first | exact at0|exact at1|exact at2|exact at3|exact at4|exact at5|exact at6|exact at7);exact rfl)|(apply OKx_ldRA;(conv=>lhs;whnf)<;>exact rfl;(with_reducible assumption)))
    refine bodyQ_r3 (by ((conv=>lhs;whnf)<;>exact rfl)) (by ((conv=>lhs;whnf)<;>exact rfl)) (by ((conv=>lhs;whnf)<;>exact rfl)) ?_
    exact ⟨_, Ent.nil, .inl ⟨h0, rfl, rfl⟩⟩
  obtain ⟨_, hn64, _, hpl, _⟩ := stCheck_len s (dCheck_zero s ds h0).1
  have hok := stCheck_okPar s (dCheck_zero s ds h0).1
  have hinc := stCheck_inc s (dCheck_zero s ds h0).1
  have hnb := fun w1 (hb : Below w.heap.size w w1) => bounds_sat nv ev pv dv s.names ds w1 (hS.below hb) (hd.below hb) hn64 (dCheck_nodes s ds h0)
  have hbd : ∀ a b, bad s ds a b = (decide ((hiOf s.names.length ds).getD b 0 < (loOf s.names.length ds).getD a 0) && (leads s.par b).getD a false) := fun _ _ => rfl
  generalize hlo : loOf s.names.length ds = lo at *
  generalize hhi : hiOf s.names.length ds = hi at *
  refine SatL.of 55 [4, 5, 6] Tryd.func34 (by kernel_rfl) (by kernel_rfl) rfl rfl rfl rfl ?_
  repeat' (first|(apply OK_seq)|(apply thenQ_n)|(apply OK_region)|(apply OKx_gc 63;exact rfl; refine OKx_callV (f := 63) (v := .int .i64 0) rfl rfl rfl (fun w hp => by have := dCheck_sat _ _ s ds w (hst.below hp.below) (hd.below hp.below); rwa [h0] at this) ?_)|(apply OKx_gc 64;exact rfl; refine OKx_call (f := 64) rfl rfl (fun w hp => hnb w hp.below) ?_; rintro _ _ ⟨g1, c1, g2, c2, rfl, rfl⟩)|(refine OK_rid 10 ?_; refine OK_quiet (id := 10) (by kernel_rfl) (by kernel_rfl) ?_)|(apply OKx_nilK)|(apply OK_block)|(apply blockQ_n)|(apply blockQ_s)|(apply thenQ_e)|(apply blockQ_e;exact rfl)|(apply thenQ_r)|(apply blockQ_r)|(apply OK_condT;exact rfl)|(apply OK_condF;exact rfl)|(apply OK_skip)|(apply OK_exit)|(apply OK_ret)|(apply OKx_move;(conv=>lhs;whnf)<;>exact rfl)|(apply OKx_assign;(conv=>lhs;whnf)<;>exact rfl)|(apply OKx_ldB;exact rfl;(first | exact at0|exact at1|exact at2|exact at3|exact at4|exact at5|exact at6|exact at7);exact rfl)|(apply OKx_ldR;(conv=>lhs;whnf)<;>exact rfl;(with_reducible assumption))|(apply OKx_ldI;exact rfl;(first | exact at0|exact at1|exact at2|exact at3|exact at4|exact at5|exact at6|exact at7);omega)|(apply OKx_len;exact rfl)|(apply OKx_lenR;(conv=>lhs;whnf)<;>exact rfl;(with_reducible assumption))|(apply OKx_lenR2;(conv=>lhs;whnf)<;>exact rfl;(with_reducible assumption))|(apply OKx_lenO;(conv=>lhs;whnf)<;>exact rfl;(first | exact at0|exact at1|exact at2|exact at3|exact at4|exact at5|exact at6|exact at7))|(apply OKx_lss;exact rfl;exact rfl;all_goals (intro _; try (exfalso;omega)))|(apply OKx_leq;exact rfl;exact rfl;all_goals (intro _; try (exfalso;omega)))|(apply OKx_neq;exact rfl;exact rfl;all_goals (intro _; try (exfalso;omega)))|(apply OKx_idxO;exact rfl;exact rfl;omega)|(apply OKx_idxR;(conv=>lhs;whnf)<;>exact rfl;(with_reducible assumption);exact rfl;omega;intro _ _)|(apply OKx_idxOz;exact rfl;exact rfl;omega;omega)|(apply OKx_idxRz;(conv=>lhs;whnf)<;>exact rfl;(with_reducible assumption);exact rfl;omega;omega;intro _ _)|(apply OKx_inc;exact rfl;exact rfl;omega)|(apply OKx_addN;exact rfl;exact rfl;omega)|(apply OKx_add;exact rfl;exact rfl;omega;omega)|(apply OKx_extract;exact rfl;(conv=>lhs;whnf)<;>exact rfl)|(apply OKx_boxA;exact rfl;intro _)|(apply OKx_ldBA;exact rfl;(first | exact at0|exact at1|exact at2|exact at3|exact at4|exact at5|exact at6|exact at7);exact rfl)|(apply OKx_ldRA;(conv=>lhs;whnf)<;>exact rfl;(with_reducible assumption)))
  rw [hlo, hhi]
  rename_i g _
  refine OK_loop1 25 [4, 5, 6, 9, 10, 11, 12, 25, 26, 27, 28, 29, 30, 31, 32, 33, 34, 35, 36, 37, 38, 39, 40, 41, 42, 43, 44, 45, 46, 47, 48, 49, 50, 51, 52, 53, 54] (fun m v L => ∃ k : Nat, k + m = s.names.length ∧ v = .int .i64 (k : Int) ∧ noBad s ds k 0 ∧ L = [.row 3 1 (.slice (some ⟨g1, 0, none⟩) s.names.length c1) s.names.length (ints lo), .row 3 1 (.slice (some ⟨g2, 0, none⟩) s.names.length c2) s.names.length (ints hi), .box 26 g [nv, ev, pv]]) s.names.length _ (Ent.pick [0, 1, 2] rfl) ⟨0, by omega, rfl, fun a' b' _ _ h => by omega, rfl⟩ ?_
  rintro m v L G ⟨k, hm, rfl, hno, rfl⟩
  repeat' (first|(apply OK_seq)|(apply thenQ_n)|(apply OK_region)|(refine OK_rid 10 ?_; refine OK_quiet (id := 10) (by kernel_rfl) (by kernel_rfl) ?_)|(apply OKx_nilK)|(apply OK_block)|(apply blockQ_n)|(apply blockQ_s)|(apply thenQ_e)|(apply blockQ_e;exact rfl)|(apply thenQ_r)|(apply blockQ_r)|(apply OK_condT;exact rfl)|(apply OK_condF;exact rfl)|(apply OK_skip)|(apply OK_exit)|(apply OK_ret)|(apply OKx_move;(conv=>lhs;whnf)<;>exact rfl)|(apply OKx_assign;(conv=>lhs;whnf)<;>exact rfl)|(apply OKx_ldB;exact rfl;(first | exact at0|exact at1|exact at2|exact at3|exact at4|exact at5|exact at6|exact at7);exact rfl)|(apply OKx_ldR;(conv=>lhs;whnf)<;>exact rfl;(with_reducible assumption))|(apply OKx_ldI;exact rfl;(first | exact at0|exact at1|exact at2|exact at3|exact at4|exact at5|exact at6|exact at7);omega)|(apply OKx_len;exact rfl)|(apply OKx_lenR;(conv=>lhs;whnf)<;>exact rfl;(with_reducible assumption))|(apply OKx_lenR2;(conv=>lhs;whnf)<;>exact rfl;(with_reducible assumption))|(apply OKx_lenO;(conv=>lhs;whnf)<;>exact rfl;(first | exact at0|exact at1|exact at2|exact at3|exact at4|exact at5|exact at6|exact at7))|(apply OKx_lss;exact rfl;exact rfl;all_goals (intro _; try (exfalso;omega)))|(apply OKx_leq;exact rfl;exact rfl;all_goals (intro _; try (exfalso;omega)))|(apply OKx_neq;exact rfl;exact rfl;all_goals (intro _; try (exfalso;omega)))|(apply OKx_idxO;exact rfl;exact rfl;omega)|(apply OKx_idxR;(conv=>lhs;whnf)<;>exact rfl;(with_reducible assumption);exact rfl;omega;intro _ _)|(apply OKx_idxOz;exact rfl;exact rfl;omega;omega)|(apply OKx_idxRz;(conv=>lhs;whnf)<;>exact rfl;(with_reducible assumption);exact rfl;omega;omega;intro _ _)|(apply OKx_inc;exact rfl;exact rfl;omega)|(apply OKx_addN;exact rfl;exact rfl;omega)|(apply OKx_add;exact rfl;exact rfl;omega;omega)|(apply OKx_extract;exact rfl;(conv=>lhs;whnf)<;>exact rfl)|(apply OKx_boxA;exact rfl;intro _)|(apply OKx_ldBA;exact rfl;(first | exact at0|exact at1|exact at2|exact at3|exact at4|exact at5|exact at6|exact at7);exact rfl)|(apply OKx_ldRA;(conv=>lhs;whnf)<;>exact rfl;(with_reducible assumption)))
  · refine OK_loop1 10 [4, 5, 6, 10, 11, 12, 30, 31, 32, 33, 34, 35, 36, 37, 38, 39, 40, 41, 42, 43, 44, 45, 46, 47, 48, 49, 50, 51, 52, 53] (fun m v L => ∃ j : Nat, k < j ∧ j + m = s.names.length ∧ v = .int .i64 (j : Int) ∧ noBad s ds k j ∧ L = [.row 3 1 (.slice (some ⟨g1, 0, none⟩) s.names.length c1) s.names.length (ints lo), .row 3 1 (.slice (some ⟨g2, 0, none⟩) s.names.length c2) s.names.length (ints hi), .box 26 g [nv, ev, pv]]) (s.names.length - (k + 1)) _ (Ent.refl _ _) ⟨k + 1, by omega, by omega, rfl, noBad_in s ds k hno, rfl⟩ ?_
    rintro m2 v L G2 ⟨j, hkj, hm2, rfl, hno2, rfl⟩
    repeat' (first|(apply OK_seq)|(apply thenQ_n)|(apply OK_region)|(apply OKx_gc 65;exact rfl; refine OKx_call (f := 65) rfl rfl (fun w1 hp => path_sat nv ev pv s.names s.par k j w1 (hS.below hp.below) (hP.below hp.below) hpl (by omega) hok hinc hkj (by omega)) ?_; rintro _ _ (⟨hle, vp, rfl, rfl⟩ | ⟨hle, rfl, rfl⟩))|(refine OK_rid 10 ?_; refine OK_quiet (id := 10) (by kernel_rfl) (by kernel_rfl) ?_)|(apply OKx_nilK)|(apply OK_block)|(apply blockQ_n)|(apply blockQ_s)|(apply thenQ_e)|(apply blockQ_e;exact rfl)|(apply thenQ_r)|(apply blockQ_r)|(apply OK_condT;exact rfl)|(apply OK_condF;exact rfl)|(apply OK_skip)|(apply OK_exit)|(apply OK_ret)|(apply OKx_move;(conv=>lhs;whnf)<;>exact rfl)|(apply OKx_assign;(conv=>lhs;whnf)<;>exact rfl)|(apply OKx_ldB;exact rfl;(first | exact at0|exact at1|exact at2|exact at3|exact at4|exact at5|exact at6|exact at7);exact rfl)|(apply OKx_ldR;(conv=>lhs;whnf)<;>exact rfl;(with_reducible assumption))|(apply OKx_ldI;exact rfl;(first | exact at0|exact at1|exact at2|exact at3|exact at4|exact at5|exact at6|exact at7);omega)|(apply OKx_len;exact rfl)|(apply OKx_lenR;(conv=>lhs;whnf)<;>exact rfl;(with_reducible assumption))|(apply OKx_lenR2;(conv=>lhs;whnf)<;>exact rfl;(with_reducible assumption))|(apply OKx_lenO;(conv=>lhs;whnf)<;>exact rfl;(first | exact at0|exact at1|exact at2|exact at3|exact at4|exact at5|exact at6|exact at7))|(apply OKx_lss;exact rfl;exact rfl;all_goals (intro _; try (exfalso;omega)))|(apply OKx_leq;exact rfl;exact rfl;all_goals (intro _; try (exfalso;omega)))|(apply OKx_neq;exact rfl;exact rfl;all_goals (intro _; try (exfalso;omega)))|(apply OKx_idxO;exact rfl;exact rfl;omega)|(apply OKx_idxR;(conv=>lhs;whnf)<;>exact rfl;(with_reducible assumption);exact rfl;omega;intro _ _)|(apply OKx_idxOz;exact rfl;exact rfl;omega;omega)|(apply OKx_idxRz;(conv=>lhs;whnf)<;>exact rfl;(with_reducible assumption);exact rfl;omega;omega;intro _ _)|(apply OKx_inc;exact rfl;exact rfl;omega)|(apply OKx_addN;exact rfl;exact rfl;omega)|(apply OKx_add;exact rfl;exact rfl;omega;omega)|(apply OKx_extract;exact rfl;(conv=>lhs;whnf)<;>exact rfl)|(apply OKx_boxA;exact rfl;intro _)|(apply OKx_ldBA;exact rfl;(first | exact at0|exact at1|exact at2|exact at3|exact at4|exact at5|exact at6|exact at7);exact rfl)|(apply OKx_ldRA;(conv=>lhs;whnf)<;>exact rfl;(with_reducible assumption)))
    · refine ⟨by (repeat' (first | refine agree_upd rfl ?_ | exact agree_over | exact agree_refl _ _ | refine agree_over2 rfl ?_)), m2 - 1, _, by omega, Ent.refl _ _, ?_⟩
      exact ⟨j + 1, by omega, by omega, rfl, noBad_step s ds k j hno2 (by rw [hbd, decide_eq_false (by omega), Bool.false_and]), rfl⟩
    · refine bodyQ_r3 (by ((conv=>lhs;whnf)<;>exact rfl)) (by ((conv=>lhs;whnf)<;>exact rfl)) (by ((conv=>lhs;whnf)<;>exact rfl)) ?_
      exact ⟨_, Ent.pick [0] rfl, .inr ⟨h0, .inl ⟨k, j, vp, hkj, by omega, by rw [hbd, decide_eq_true (by omega), Bool.true_and]; exact hle, hno2, rfl, rfl⟩⟩⟩
    · refine ⟨by (repeat' (first | refine agree_upd rfl ?_ | exact agree_over | exact agree_refl _ _ | refine agree_over2 rfl ?_)), m2 - 1, _, by omega, Ent.refl _ _, ?_⟩
      exact ⟨j + 1, by omega, by omega, rfl, noBad_step s ds k j hno2 (by rw [hbd, hle, Bool.and_false]), rfl⟩
    · refine ⟨by (repeat' (first | refine agree_upd rfl ?_ | exact agree_over | exact agree_refl _ _ | refine agree_over2 rfl ?_)), m - 1, _, by omega, Ent.refl _ _, ?_⟩
      exact ⟨k + 1, by omega, rfl, noBad_row s ds k j hno2 (by omega), rfl⟩
  · refine bodyQ_r3 (by ((conv=>lhs;whnf)<;>exact rfl)) (by ((conv=>lhs;whnf)<;>exact rfl)) (by ((conv=>lhs;whnf)<;>exact rfl)) ?_
    obtain rfl : k = s.names.length := by omega
    exact ⟨_, Ent.nil, .inr ⟨h0, .inr ⟨hno, rfl, rfl⟩⟩⟩
end Go.Proofs.YtpfemholpigdeaaDoor
namespace Go.Proofs.YtpfemholpigdeaaDoor
open Go.RowKit
theorem dcells_len (ds : List Dt) : (dcells ds).length = ds.length * 3 := by
  induction ds with
  | nil => rfl
  | cons d ds ih =>
    rw [show dcells (d :: ds) = [.int .i64 d.node, .int .i64 d.fr, .int .i64 d.tl] ++ dcells ds from rfl, List.length_append, ih, List.length_cons]
    simp only [List.length_cons, List.length_nil]
    omega
theorem dcells_app (a b : List Dt) : dcells (a ++ b) = dcells a ++ dcells b := by simp [dcells]
abbrev drow (v : Value) (ds : List Dt) : Res := .row 62 3 v ds.length (dcells ds)
theorem SatL.caps {P : Program} {f : FuncId} {args : List Value} {w0 : World} {L : List Res} {R : Value → List Res → Prop} (h : SatL P f args w0 L R) :
    SatL P f args w0 L (fun u L' => R u L' ∧ ∀ e sz g n c xs, Res.row e sz (.slice (some ⟨g, 0, none⟩) n c) n xs ∈ L' → n ≤ c) :=
  ⟨h.enters, fun w hp => (h.calls w hp).mono fun e w' ⟨v, L', h1, h2, h3⟩ => ⟨v, L', h1, h2, h3, fun e sz g n c xs hm => by
    have ho : w'.ownsRow w0.heap.size e sz (.slice (some ⟨g, 0, none⟩) n c) n xs := h2.ok _ hm
    rcases ho.2 with ⟨h0, _⟩ | ⟨g', cap, cur, h0, _, _, h4, _⟩
    · cases h0
    · cases h0; exact h4⟩⟩
end Go.Proofs.YtpfemholpigdeaaDoor
namespace Go.Proofs.YtpfemholpigdeaaDoor
open Go.RowKit
theorem put1_other (i : Nat) : ∀ (ds : List Dt) (xs : List Int), (∀ d ∈ ds, d.node.toNat ≠ i) → (ds.foldl put1 xs).getD i 0 = xs.getD i 0 := by
  intro ds
  induction ds with
  | nil => intro xs _; rfl
  | cons a ds ih =>
    intro xs h
    rw [List.foldl_cons, ih _ (fun d hd => h d (List.mem_cons_of_mem _ hd)), put1, getD_set37, if_neg (fun e => h a List.mem_cons_self e.1)]
theorem put2_other (i : Nat) : ∀ (ds : List Dt) (xs : List Int), (∀ d ∈ ds, d.node.toNat ≠ i) → (ds.foldl put2 xs).getD i 0 = xs.getD i 0 := by
  intro ds
  induction ds with
  | nil => intro xs _; rfl
  | cons a ds ih =>
    intro xs h
    rw [List.foldl_cons, ih _ (fun d hd => h d (List.mem_cons_of_mem _ hd)), put2, getD_set37, if_neg (fun e => h a List.mem_cons_self e.1)]
def Dist (ds : List Dt) : Prop := ds.Pairwise (fun a b => a.node ≠ b.node)
theorem put1_at : ∀ (ds : List Dt) (xs : List Int), Dist ds → (∀ d ∈ ds, 0 ≤ d.node ∧ d.node.toNat < xs.length) → ∀ d ∈ ds, (ds.foldl put1 xs).getD d.node.toNat 0 = d.fr := by
  intro ds
  induction ds with
  | nil => intro xs _ _ d hd; simp at hd
  | cons a ds ih =>
    intro xs h hn d hd
    have h2 := List.pairwise_cons.1 h
    have ha := hn a List.mem_cons_self
    rw [List.foldl_cons]
    rcases List.mem_cons.1 hd with rfl | hd
    · rw [put1_other _ _ _ (fun b hb => ?_), put1, getD_set37, if_pos ⟨rfl, ha.2⟩]
      have h3 := h2.1 b hb
      have h4 := hn b (List.mem_cons_of_mem _ hb)
      omega
    · refine ih _ h2.2 (fun b hb => ?_) d hd
      have h4 := hn b (List.mem_cons_of_mem _ hb)
      rw [put1, List.length_set]
      exact h4
theorem put2_at : ∀ (ds : List Dt) (xs : List Int), Dist ds → (∀ d ∈ ds, 0 ≤ d.node ∧ d.node.toNat < xs.length) → ∀ d ∈ ds, (ds.foldl put2 xs).getD d.node.toNat 0 = d.tl := by
  intro ds
  induction ds with
  | nil => intro xs _ _ d hd; simp at hd
  | cons a ds ih =>
    intro xs h hn d hd
    have h2 := List.pairwise_cons.1 h
    have ha := hn a List.mem_cons_self
    rw [List.foldl_cons]
    rcases List.mem_cons.1 hd with rfl | hd
    · rw [put2_other _ _ _ (fun b hb => ?_), put2, getD_set37, if_pos ⟨rfl, ha.2⟩]
      have h3 := h2.1 b hb
      have h4 := hn b (List.mem_cons_of_mem _ hb)
      omega
    · refine ih _ h2.2 (fun b hb => ?_) d hd
      have h4 := hn b (List.mem_cons_of_mem _ hb)
      rw [put2, List.length_set]
      exact h4
theorem dCheck_dist (s : Stem) (ds : List Dt) (h : dCheck s ds = 0) : Dist ds := by
  rw [Dist, List.pairwise_iff_getElem]
  intro i j hi hj hij
  exact ((dCheck_zero s ds h).2 j hj).2.2 i hij
theorem loOf_at (s : Stem) (ds : List Dt) (h : dCheck s ds = 0) (d : Dt) (hd : d ∈ ds) : (loOf s.names.length ds).getD d.node.toNat 0 = d.fr :=
  put1_at _ _ (dCheck_dist s ds h) (fun b hb => by have := dCheck_nodes s ds h b hb; rw [List.length_replicate];omega) d hd
theorem hiOf_at (s : Stem) (ds : List Dt) (h : dCheck s ds = 0) (d : Dt) (hd : d ∈ ds) : (hiOf s.names.length ds).getD d.node.toNat 0 = d.tl :=
  put2_at _ _ (dCheck_dist s ds h) (fun b hb => by have := dCheck_nodes s ds h b hb; rw [List.length_replicate];omega) d hd
theorem put1_le (y : Nat → Int) : ∀ (ds : List Dt) (xs : List Int), (∀ d ∈ ds, d.fr ≤ y d.node.toNat) → (∀ i, i < xs.length → xs.getD i 0 ≤ y i) → ∀ i, i < xs.length → (ds.foldl put1 xs).getD i 0 ≤ y i := by
  intro ds
  induction ds with
  | nil => intro xs _ h i hi; exact h i hi
  | cons a ds ih =>
    intro xs hd h i hi
    rw [List.foldl_cons]
    have e : (put1 xs a).length = xs.length := by rw [put1, List.length_set]
    refine ih _ (fun d hd' => hd d (List.mem_cons_of_mem _ hd')) (fun j hj => ?_) i (by omega)
    rw [put1, getD_set37]
    split
    · rename_i hj2
      rw [← hj2.1]
      exact hd a List.mem_cons_self
    · exact h j (by omega)
theorem put2_ge (y : Nat → Int) : ∀ (ds : List Dt) (xs : List Int), (∀ d ∈ ds, y d.node.toNat ≤ d.tl) → (∀ i, i < xs.length → y i ≤ xs.getD i 0) → ∀ i, i < xs.length → y i ≤ (ds.foldl put2 xs).getD i 0 := by
  intro ds
  induction ds with
  | nil => intro xs _ h i hi; exact h i hi
  | cons a ds ih =>
    intro xs hd h i hi
    rw [List.foldl_cons]
    have e : (put2 xs a).length = xs.length := by rw [put2, List.length_set]
    refine ih _ (fun d hd' => hd d (List.mem_cons_of_mem _ hd')) (fun j hj => ?_) i (by omega)
    rw [put2, getD_set37]
    split
    · rename_i hj2
      rw [← hj2.1]
      exact hd a List.mem_cons_self
    · exact h j (by omega)
theorem rep_getD (n : Nat) (v : Int) (i : Nat) (h : i < n) : (List.replicate n v).getD i 0 = v := by simp [h]
theorem loOf_least (n : Nat) (ds : List Dt) (y : Nat → Int) (h1 : ∀ d ∈ ds, d.fr ≤ y d.node.toNat) (h2 : ∀ i, i < n → -5000 ≤ y i) (i : Nat) (hi : i < n) : (loOf n ds).getD i 0 ≤ y i :=
  put1_le y ds _ h1 (fun j hj => by rw [List.length_replicate] at hj; rw [rep_getD _ _ _ hj]; exact h2 j hj) i (by rw [List.length_replicate]; exact hi)
theorem hiOf_most (n : Nat) (ds : List Dt) (y : Nat → Int) (h1 : ∀ d ∈ ds, y d.node.toNat ≤ d.tl) (h2 : ∀ i, i < n → y i ≤ 5000) (i : Nat) (hi : i < n) : y i ≤ (hiOf n ds).getD i 0 :=
  put2_ge y ds _ h1 (fun j hj => by rw [List.length_replicate] at hj; rw [rep_getD _ _ _ hj]; exact h2 j hj) i (by rw [List.length_replicate]; exact hi)
theorem yErr_zero (s : Stem) (ds : List Dt) (h : yErr s ds = 0) : ∀ i, i < s.names.length → (eYrs s ds).getD i 0 ≤ (lYrs s ds).getD i 0 := by
  unfold yErr at h
  split at h
  · omega
  · split at h
    · rename_i hc
      intro i hi
      rw [consB, List.all_eq_true] at hc
      simpa using hc i (List.mem_range.2 hi)
    · omega
theorem eYrs_ge (s : Stem) (ds : List Dt) (h : dCheck s ds = 0) (i : Nat) : (loOf s.names.length ds).getD i 0 ≤ (eYrs s ds).getD i 0 := by
  have hs := (dCheck_zero s ds h).1
  obtain ⟨_, _, _, hpl, _⟩ := stCheck_len s hs
  have := (earl_spec s.par (loOf s.names.length ds) (stCheck_okPar s hs) (by rw [loOf_len, hpl]) s.par.length (Nat.le_refl _)).2.1 i
  rwa [hpl] at this
theorem lYrs_le (s : Stem) (ds : List Dt) (h : dCheck s ds = 0) (i : Nat) : (lYrs s ds).getD i 0 ≤ (hiOf s.names.length ds).getD i 0 := by
  have hs := (dCheck_zero s ds h).1
  obtain ⟨_, _, _, hpl, _⟩ := stCheck_len s hs
  have := (late_spec s.par (stCheck_okPar s hs) s.par.length (hiOf s.names.length ds) (Nat.le_refl _) (by rw [hiOf_len, hpl])).2.1 i
  rwa [hpl] at this
end Go.Proofs.YtpfemholpigdeaaDoor
namespace Go.Proofs.YtpfemholpigdeaaDoor
open Go.RowKit
def AnsV (s : Stem) (ds : List Dt) (xs : List Int) (u : Value) (L : List Res) : Prop :=
  (yErr s ds = 0 ∧ ∃ g c, u = .tuple #[.slice (some ⟨g, 0, none⟩) s.names.length c, .int .i64 0] ∧ L = [.row 3 1 (.slice (some ⟨g, 0, none⟩) s.names.length c) s.names.length (ints xs)]) ∨
  (yErr s ds ≠ 0 ∧ ∃ a c, u = .tuple #[.slice a 0 c, .int .i64 (yErr s ds)] ∧ L = [.row 3 1 (.slice a 0 c) 0 []])
theorem AnsR.told {f : FuncId} {args : List Value} {w : World} {s : Stem} {ds : List Dt} {xs : List Int} (h : Sat Tryd.prog f args w (AnsR s ds xs)) (hl : xs.length = s.names.length) : Sat Tryd.prog f args w (AnsV s ds xs) :=
  h.row.mono fun u L ⟨⟨v, h1, h2⟩, h3⟩ => by
    by_cases hy : yErr s ds = 0
    · have hn := (stCheck_len s (dCheck_zero s ds (yErr_check s ds hy)).1).1
      subst h2
      rw [ans_yes _ hy] at *
      obtain ⟨g, c, rfl⟩ := (h3 _ _ _ _ _ List.mem_cons_self).2 (by omega)
      exact .inl ⟨hy, g, c, by rw [h1, hy, hl], by rw [hl]; unfold irow; rw [hl]⟩
    · subst h2
      rw [ans_no _ hy] at *
      obtain ⟨a, c, rfl⟩ := (h3 _ _ _ _ _ List.mem_cons_self).1
      exact .inr ⟨hy, a, c, h1, rfl⟩
end Go.Proofs.YtpfemholpigdeaaDoor
namespace Go.Proofs.YtpfemholpigdeaaDoor
open Go.RowKit
theorem firstErr_all37 (f : Nat → Int) (n : Nat) (h : ∀ k, k < n → f k = 0) : firstErr f n = 0 := by
  induction n with
  | zero => rfl
  | succ n ih => exact firstErr_step f n (ih fun k hk => h k (by omega)) (h n (by omega))
theorem dCheck_of (s : Stem) (ds : List Dt) (h0 : stCheck s = 0) (h : ∀ k, (hk : k < ds.length) → ¬ dBad s.names.length ds[k] ∧ ds[k].fr ≤ ds[k].tl ∧ ∀ j, (hj : j < k) → ds[j].node ≠ ds[k].node) : dCheck s ds = 0 := by
  refine dCheck_ok s ds h0 (firstErr_all37 _ _ fun k hk => ?_)
  obtain ⟨h1, h2, h3⟩ := h k hk
  rw [dtAt_eq _ _ _ hk, if_neg h1, if_neg (by omega), if_neg]
  intro ha
  obtain ⟨e, he, hn⟩ := List.any_eq_true.1 ha
  obtain ⟨j, hj, rfl⟩ := List.mem_take_iff_getElem.1 he
  exact h3 j (by omega) (by simpa using hn)
theorem yErr_of (s : Stem) (ds : List Dt) (h : dCheck s ds = 0) (hc : ∀ i, i < s.names.length → (eYrs s ds).getD i 0 ≤ (lYrs s ds).getD i 0) : yErr s ds = 0 := by
  unfold yErr
  rw [if_neg (by rw [h]; simp), if_pos (consB_true _ _ _ hc)]
theorem getD_out (xs : List Int) (j : Nat) (h : xs.length ≤ j) : xs.getD j 0 = 0 := by simp [h]
theorem eYrs_least (s : Stem) (ds : List Dt) (h : dCheck s ds = 0) (y : Nat → Int) (h1 : ∀ d ∈ ds, d.fr ≤ y d.node.toNat) (h2 : ∀ i, i < s.names.length → -5000 ≤ y i) (h3 : ∀ i, i < s.par.length → ∀ p ∈ s.par.getD i [], y p.toNat ≤ y i) (i : Nat) (hi : i < s.names.length) : (eYrs s ds).getD i 0 ≤ y i := by
  have hs := (dCheck_zero s ds h).1
  obtain ⟨_, _, _, hpl, _⟩ := stCheck_len s hs
  have := earl_least s.par (loOf s.names.length ds) (stCheck_okPar s hs) (by rw [loOf_len, hpl]) y (fun i hi => loOf_least _ _ y h1 h2 i (by omega)) (fun i hi p hp => h3 i hi p (by simpa [hi] using hp)) i (by omega)
  rwa [hpl] at this
theorem lYrs_most (s : Stem) (ds : List Dt) (h : dCheck s ds = 0) (y : Nat → Int) (h1 : ∀ d ∈ ds, y d.node.toNat ≤ d.tl) (h2 : ∀ i, i < s.names.length → y i ≤ 5000) (h3 : ∀ i, i < s.par.length → ∀ p ∈ s.par.getD i [], y p.toNat ≤ y i) (i : Nat) (hi : i < s.names.length) : y i ≤ (lYrs s ds).getD i 0 := by
  have hs := (dCheck_zero s ds h).1
  obtain ⟨_, _, _, hpl, _⟩ := stCheck_len s hs
  have hok := stCheck_okPar s hs
  have := (late_spec s.par hok s.par.length (hiOf s.names.length ds) (Nat.le_refl _) (by rw [hiOf_len, hpl])).2.2.2 (fun j => if j < s.names.length then y j else 0)
    (fun j => by
      split
      · exact hiOf_most _ _ y h1 h2 j ‹_›
      · rw [getD_out _ _ (by rw [hiOf_len];omega)]; exact Int.le_refl _)
    (fun i hi _ p hp => by
      have hp0 := hok i hi p hp
      show (if p.toNat < _ then _ else _) ≤ (if i < _ then _ else _)
      rw [if_pos (by omega), if_pos (by omega)]
      exact h3 i hi p (by simpa [hi] using hp)) i
  rw [hpl] at this
  simp only [hi, if_true] at this
  exact this
theorem par_up (s : Stem) (ds : List Dt) (h : dCheck s ds = 0) (i : Nat) (hi : i < s.par.length) (p : Int) (hp : p ∈ s.par.getD i []) : (eYrs s ds).getD p.toNat 0 ≤ (eYrs s ds).getD i 0 ∧ (lYrs s ds).getD p.toNat 0 ≤ (lYrs s ds).getD i 0 ∧ 0 ≤ p ∧ p < i := by
  have hs := (dCheck_zero s ds h).1
  obtain ⟨_, _, _, hpl, _⟩ := stCheck_len s hs
  have hok := stCheck_okPar s hs
  have hm : p ∈ s.par[i] := by simpa [hi] using hp
  obtain ⟨_, _, e3, _⟩ := earl_spec s.par (loOf s.names.length ds) hok (by rw [loOf_len, hpl]) s.par.length (Nat.le_refl _)
  obtain ⟨_, _, l3, _⟩ := late_spec s.par hok s.par.length (hiOf s.names.length ds) (Nat.le_refl _) (by rw [hiOf_len, hpl])
  have a := e3 i hi hi _ hm
  have b := l3 i hi hi _ hm
  rw [hpl] at a b
  exact ⟨a, b, hok i hi p hm⟩
theorem dAll_in (s : Stem) (ds : List Dt) (h : dCheck s ds = 0) : AllY (eYrs s ds) ∧ AllY (lYrs s ds) := ⟨(loOf_in _ s ds h).earl _ _, AllY.late _ _ (hiOf_in _ s ds h)⟩
theorem Hp.dats {B : Nat} {w0 w : World} {L : List Res} (h : Hp B w0 w L) (i : Nat) {v : Value} {ds : List Dt} (hi : L[i]? = some (drow v ds)) (hn : ds.length ≤ 140737488355328)
    (hb : ∀ d ∈ ds, (-9223372036854775808 ≤ d.node ∧ d.node ≤ 9223372036854775807) ∧ (-9223372036854775808 ≤ d.fr ∧ d.fr ≤ 9223372036854775807) ∧ (-9223372036854775808 ≤ d.tl ∧ d.tl ≤ 9223372036854775807)) : Dats w v ds := by
  refine ⟨h.sl i hi hn fun j hj => ?_, hb⟩
  have : j < (dcells ds).length := by rw [dcells_len]; exact hj
  simp [this]
end Go.Proofs.YtpfemholpigdeaaDoor
namespace Go.Proofs.YtpfemholpigdeaaDoor
open Go.RowKit Go.Maps
theorem Rch.mono {s : Stem} {ds : List Dt} (h : dCheck s ds = 0) {a b : Nat} (hr : Rch s.par b a) : (eYrs s ds).getD a 0 ≤ (eYrs s ds).getD b 0 := by
  induction hr with
  | here => exact Int.le_refl _
  | up i k h1 h2 h3 _ ih =>
    have := (par_up s ds h k h2 _ h3).1
    rw [Int.toNat_natCast] at this
    omega
end Go.Proofs.YtpfemholpigdeaaDoor
namespace Go.Proofs.YtpfemholpigdeaaDoor
open Go.RowKit Go.Maps
structure Mark (par : List (List Int)) (b t : Nat) (l : List Bool) : Prop where
  len : l.length = par.length
  only : ∀ j, l.getD j false = true → Rch par b j
  top : l.getD b false = true
  up : ∀ x, t ≤ x → x < par.length → l.getD x false = true → ∀ p : Nat, (p : Int) ∈ par.getD x [] → l.getD p false = true
theorem Mark.all {par : List (List Int)} {b : Nat} {l : List Bool} (h : Mark par b 0 l) : ∀ j, Rch par b j → l.getD j false = true := by
  intro j hr
  induction hr with
  | here => exact h.top
  | up j k h1 h2 h3 h4 ih => exact h.up k (by omega) h2 ih j h3
theorem Mark.set {par : List (List Int)} {b i : Nat} {l : List Bool} (h : Mark par b (i + 1) l) (hi : i < par.length) (hm : l.getD i false = true) (p : Nat) (hp : p < i) (hpi : (p : Int) ∈ par.getD i []) : Mark par b (i + 1) (l.set p true) := by
  have hb := (h.only i hm).le
  refine ⟨by rw [List.length_set]; exact h.len, fun j hj => ?_, ?_, fun x hx hxl hx1 q hq => ?_⟩
  · rw [setB_getD] at hj
    split at hj
    · rename_i e; rw [← e.1]; exact .up p i hp hi hpi (h.only i hm)
    · exact h.only j hj
  · rw [setB_getD, if_neg (by omega)]; exact h.top
  · rw [setB_getD, if_neg (by omega)] at hx1
    rw [setB_getD]
    split
    · rfl
    · exact h.up x hx hxl hx1 q hq
theorem Mark.next {par : List (List Int)} {b i : Nat} {l : List Bool} (h : Mark par b (i + 1) l) (hu : l.getD i false = true → ∀ p : Nat, (p : Int) ∈ par.getD i [] → l.getD p false = true) : Mark par b i l := by
  refine ⟨h.len, h.only, h.top, fun x hx hxl hx1 p hp => ?_⟩
  by_cases he : x = i
  · subst he; exact hu hx1 p hp
  · exact h.up x (by omega) hxl hx1 p hp
theorem Mark.zero {par : List (List Int)} {b : Nat} (hb : b < par.length) : Mark par b (b + 1) ((List.replicate par.length false).set b true) := by
  refine ⟨by simp, fun j hj => ?_, by rw [setB_getD, if_pos ⟨rfl, by simpa using hb⟩], fun x hx hxl hx1 => ?_⟩
  · rw [setB_getD] at hj
    split at hj
    · rename_i e; rw [← e.1]; exact .here
    · simp only [List.getD_eq_getElem?_getD, List.getElem?_replicate] at hj
      split at hj <;> simp at hj
  · rw [setB_getD, if_neg (by omega)] at hx1
    simp only [List.getD_eq_getElem?_getD, List.getElem?_replicate] at hx1
    split at hx1 <;> simp at hx1
theorem Mark.leads {par : List (List Int)} {b : Nat} {l : List Bool} (h : Mark par b 0 l) (hok : okPar par) (hb : b < par.length) (j : Nat) : l.getD j false = (Go.Proofs.YtpfemholpigdeaaDoor.leads par b).getD j false := by
  have hs := ldA_spec par b hok hb b (Nat.le_refl _) j (by omega)
  rw [Go.Proofs.YtpfemholpigdeaaDoor.leads]
  by_cases hr : Rch par b j
  · rw [h.all j hr, hs.2 hr]
  · have h1 : l.getD j false = false := by cases hl : l.getD j false with
      | false => rfl
      | true => exact absurd (h.only j hl) hr
    have h2 : (ldA par par.length b b).getD j false = false := by cases hl : (ldA par par.length b b).getD j false with
      | false => rfl
      | true => exact absurd (hs.1 hl) hr
    rw [h1, h2]
end Go.Proofs.YtpfemholpigdeaaDoor
namespace Go.Proofs.YtpfemholpigdeaaDoor
open Go.RowKit Go.Maps
abbrev ty37 : ByteArray := ⟨#[120, 32, 108, 111, 115, 116, 10, 65, 32, 101, 120, 116, 97, 110, 116, 32, 102, 114, 111, 109, 32, 120, 10, 66, 32, 101, 120, 116, 97, 110, 116, 32, 102, 114, 111, 109, 32, 65, 10]⟩
theorem ty37E : psE ty37 = 0 := by decide +kernel
theorem ty37S : psS ty37 = ⟨[⟨#[120]⟩, ⟨#[65]⟩, ⟨#[66]⟩], [false, true, true], [[], [0], [1]]⟩ := by
  have h1 : (psS ty37).names = [⟨#[120]⟩, ⟨#[65]⟩, ⟨#[66]⟩] := by decide +kernel
  have h2 : (psS ty37).ext = [false, true, true] := by decide +kernel
  have h3 : (psS ty37).par = [[], [0], [1]] := by decide +kernel
  exact (show psS ty37 = ⟨(psS ty37).names, (psS ty37).ext, (psS ty37).par⟩ from rfl).trans (by rw [h1, h2, h3])
def st37 : Stem := ⟨[⟨#[120]⟩, ⟨#[65]⟩, ⟨#[66]⟩], [false, true, true], [[], [0], [1]]⟩
def da37 : List Dt := [⟨1, 1100, 1200⟩]
def db37 : List Dt := [⟨1, 1100, 1200⟩, ⟨2, 1000, 1050⟩]
theorem st37A : dCheck st37 da37 = 0 ∧ yErr st37 da37 = 0 ∧ eYrs st37 da37 = [-5000, 1100, 1100] := by decide +kernel
theorem st37B : dCheck st37 db37 = 0 ∧ bad st37 db37 0 1 = false ∧ bad st37 db37 0 2 = false ∧ bad st37 db37 1 2 = true ∧ pathL st37.par 1 2 = [1, 2] := by decide +kernel
theorem da37_bd : ∀ d ∈ da37, (-9223372036854775808 ≤ d.node ∧ d.node ≤ 9223372036854775807) ∧ (-9223372036854775808 ≤ d.fr ∧ d.fr ≤ 9223372036854775807) ∧ (-9223372036854775808 ≤ d.tl ∧ d.tl ≤ 9223372036854775807) := by
  intro d hd
  simp only [da37, List.mem_cons, List.not_mem_nil, or_false] at hd
  rcases hd with rfl
  decide
theorem db37_bd : ∀ d ∈ db37, (-9223372036854775808 ≤ d.node ∧ d.node ≤ 9223372036854775807) ∧ (-9223372036854775808 ≤ d.fr ∧ d.fr ≤ 9223372036854775807) ∧ (-9223372036854775808 ≤ d.tl ∧ d.tl ≤ 9223372036854775807) := by
  intro d hd
  simp only [db37, List.mem_cons, List.not_mem_nil, or_false] at hd
  rcases hd with rfl | rfl <;> decide
set_option maxRecDepth 100000 in
set_option maxHeartbeats 4000000 in
theorem Pa37_sat (w : World) (hm : MxL w) : Sat Tryd.prog 11 [.string ty37] w (fun u Z => ∃ a b c d e f g h i, u = .tuple #[.agg #[.slice a b c, .slice d e f, .slice g h i], .int .i64 0] ∧ ∀ w0 w, Hp w0.heap.size w0 w Z → Stm w (.agg #[.slice a b c, .slice d e f, .slice g h i]) st37) :=
  PrsO_sat ty37 st37 w hm ty37E ty37S
set_option maxRecDepth 100000 in
set_option maxHeartbeats 4000000 in
theorem Ea37_sat (v dv : Value) (w : World) (h : Stm w v st37) (hd : Dats w dv da37) : Sat Tryd.prog 33 [v, dv] w (fun u L => ∃ v, u = .tuple #[v, .int .i64 0] ∧ L = [irow v [-5000, 1100, 1100]]) :=
  (Earliest_sat v dv st37 da37 w h hd).mono fun u L ⟨v, h1, h2⟩ => ⟨v, by rw [h1, st37A.2.1], by rw [h2, ans_yes _ st37A.2.1, st37A.2.2]⟩
set_option maxRecDepth 100000 in
set_option maxHeartbeats 4000000 in
theorem Cb37_sat (v dv : Value) (w : World) (h : Stm w v st37) (hd : Dats w dv db37) : Sat Tryd.prog 34 [v, dv] w (fun u L => ∃ v, u = .tuple #[v, .bool false, .int .i64 0] ∧ L = [irow v [1, 2]]) :=
  (Cons_sat v dv st37 db37 w h hd).mono fun u L hR => by
    rcases hR with ⟨h0, _⟩ | ⟨_, ⟨a, b, v', h1, h2, h3, h4, h5, h6⟩ | ⟨h1, _⟩⟩
    · exact absurd st37B.1 h0
    · have h2' : b < 3 := h2
      have hab : a = 1 ∧ b = 2 := by
        have c1 : (a = 0 ∧ b = 1) ∨ (a = 0 ∧ b = 2) ∨ (a = 1 ∧ b = 2) := by omega
        rcases c1 with ⟨rfl, rfl⟩ | ⟨rfl, rfl⟩ | h
        · rw [st37B.2.1] at h3; cases h3
        · rw [st37B.2.2.1] at h3; cases h3
        · exact h
      rw [hab.1, hab.2, st37B.2.2.2.2] at h6
      exact ⟨v', h5, h6⟩
    · have := h1 1 2 (by decide) (show 2 < 3 by decide) (.inl (show 1 < 3 by decide))
      rw [st37B.2.2.2.1] at this
      cases this
set_option maxRecDepth 100000 in
set_option maxHeartbeats 4000000 in
theorem top37_sat (w : World) (hm : MxL w) : SatV Tryd.prog 32 [] w (.bool true) := by
  refine SatL.of 52 [0] Tryd.func32 (by kernel_rfl) (by kernel_rfl) rfl rfl rfl rfl ?_
  repeat' (first|(apply OK_seq)|(apply thenQ_n)|(apply OK_region)|(apply OKx_gt; refine OKx_slit (vs := [.agg #[.int .i64 1, .int .i64 1100, .int .i64 1200], .agg #[.int .i64 2, .int .i64 1000, .int .i64 1050]]) (cs := [[.int .i64 1, .int .i64 1100, .int .i64 1200], [.int .i64 2, .int .i64 1000, .int .i64 1050]]) [.int .i64 1, .int .i64 1100, .int .i64 1200, .int .i64 2, .int .i64 1000, .int .i64 1050] rfl rfl rfl rfl rfl rfl ?_; intro gd)|(apply OKx_gt; refine OKx_slit (vs := [.agg #[.int .i64 1, .int .i64 1100, .int .i64 1200]]) (cs := [[.int .i64 1, .int .i64 1100, .int .i64 1200]]) [.int .i64 1, .int .i64 1100, .int .i64 1200] rfl rfl rfl rfl rfl rfl ?_; intro ge)|(apply OKx_gc 11;exact rfl; refine OKx_call (f := 11) rfl rfl (fun w1 hp => Pa37_sat w1 (hm.below hp.below)) ?_; rintro _ Z ⟨sa1, sa2, sa3, sb1, sb2, sb3, sc1, sc2, sc3, rfl, hZ⟩; refine OKx_ent (Ent.perm List.perm_append_comm) ?_; rw [List.nil_append])|(apply OKx_gc 33;exact rfl; refine OKx_call (f := 33) rfl rfl (fun w1 hp => Ea37_sat _ _ w1 (hZ w w1 (hp.sub (((List.Sublist.refl Z).cons _).cons _))) (hp.dats 0 rfl (by decide) da37_bd)) ?_; rintro _ _ ⟨vE, rfl, rfl⟩; rw [List.cons_append, List.nil_append])|(apply OKx_gc 34;exact rfl; refine OKx_call (f := 34) rfl rfl (fun w1 hp => Cb37_sat _ _ w1 (hZ w w1 (hp.sub (((((List.Sublist.refl Z).cons _).cons _).cons _).cons _))) (hp.dats 0 rfl (by decide) db37_bd)) ?_; rintro _ _ ⟨vC, rfl, rfl⟩; rw [List.cons_append, List.nil_append])|(apply OKx_gc 26;exact rfl; refine OKx_callV (f := 26) (v := .bool true) rfl rfl rfl (fun w1 hp => equalT_sat _ _ [-5000, 1100, 1100] [-5000, 1100, 1100] w1 (hp.ints 3 rfl (by decide)) (hp.ints 0 rfl (by decide)) rfl) ?_)|(apply OKx_gc 26;exact rfl; refine OKx_callV (f := 26) (v := .bool true) rfl rfl rfl (fun w1 hp => equalT_sat _ _ [1, 2] [1, 2] w1 (hp.ints 2 rfl (by decide)) (hp.ints 0 rfl (by decide)) rfl) ?_)|(apply OKx_nilK)|(apply OK_block)|(apply blockQ_n)|(apply blockQ_s)|(apply thenQ_e)|(apply blockQ_e;exact rfl)|(apply thenQ_r)|(apply blockQ_r)|(apply OK_condT;exact rfl)|(apply OK_condF;exact rfl)|(apply OK_skip)|(apply OK_exit)|(apply OK_ret)|(apply OKx_move;(conv=>lhs;whnf)<;>exact rfl)|(apply OKx_assign;(conv=>lhs;whnf)<;>exact rfl)|(apply OKx_eql;exact rfl;exact rfl;all_goals (intro _; try (exfalso;omega)))|(apply OKx_pickT;exact rfl;(conv=>lhs;whnf)<;>exact rfl)|(apply OKx_pickF;exact rfl;(conv=>lhs;whnf)<;>exact rfl)|(apply OKx_guardT;exact rfl;exact rfl)|(apply OKx_guardF;exact rfl;exact rfl)|(apply OKx_guardU;exact rfl;exact rfl)|(apply OKx_notT;exact rfl)|(apply OKx_notF;exact rfl)|(apply OKx_extract;exact rfl;(conv=>lhs;whnf)<;>exact rfl)|(apply OKx_allocA;intro _)|(apply OKx_ldBA;exact rfl;(first | exact at0|exact at1|exact at2|exact at3|exact at4|exact at5|exact at6|exact at7);exact rfl)|(apply OKx_ldRA;(conv=>lhs;whnf)<;>exact rfl;(with_reducible assumption))|(apply OKx_slit1;(conv=>lhs;whnf)<;>exact rfl;exact rfl;intro _)|(apply OKx_slit3;(conv=>lhs;whnf)<;>exact rfl;(conv=>lhs;whnf)<;>exact rfl;(conv=>lhs;whnf)<;>exact rfl;exact rfl;exact rfl;exact rfl;intro _)|(apply OKx_slit2;(conv=>lhs;whnf)<;>exact rfl;(conv=>lhs;whnf)<;>exact rfl;exact rfl;exact rfl;intro _)|(apply OKx_build3;(conv=>lhs;whnf)<;>exact rfl;(conv=>lhs;whnf)<;>exact rfl;(conv=>lhs;whnf)<;>exact rfl;exact rfl;exact rfl;exact rfl)|(apply OKx_stBA; kernel_rfl;exact rfl;exact rfl;exact rfl;(first | exact at0|exact at1|exact at2|exact at3|exact at4|exact at5|exact at6|exact at7);exact rfl;exact rfl;exact rfl))
  refine bodyQ_r1 (by ((conv=>lhs;whnf)<;>exact rfl)) ?_
  exact ⟨_, Ent.nil, rfl, rfl⟩
end Go.Proofs.YtpfemholpigdeaaDoor
