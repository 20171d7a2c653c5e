/-
  Part 18 of the proof: Path. No statement of the seat is proved here.
-/
import Derived.Test.YtpfemholpigdeaaDoorMHTr3717
namespace Go.Proofs.YtpfemholpigdeaaDoor
open Go.RowKit Go.Maps
theorem anyN_list (xs : List Int) (P : Int → Bool) : anyN (fun j => P (xs.getD j 0)) xs.length = xs.any P := by
  cases h : xs.any P with
  | true =>
    obtain ⟨x, hx, hp⟩ := List.any_eq_true.1 h
    obtain ⟨j, hj, rfl⟩ := List.getElem_of_mem hx
    exact anyN_hit hj (by rw [getD_lt _ _ _ hj]; exact hp)
  | false =>
    rw [List.any_eq_false] at h
    exact anyN_none fun j hj => by
      have := h _ (List.getElem_mem hj)
      rw [getD_lt _ _ _ hj]
      simpa using this
def onB (b : Nat) (l : List Bool) (k : Int) : Bool := decide (k ≤ b) && l.getD k.toNat false
set_option maxRecDepth 100000 in
set_option maxHeartbeats 4000000 in
theorem path1_sat (pt pl vl : Value) (l : List Bool) (b : Nat) (k : Int) (w : World) (h1 : Pt1 w pt (.int .i64 (b : Int))) (h2 : Pt1 w pl vl) (hl : Bools w vl l) (hb : b < l.length) (h0 : 0 ≤ k) : SatV Tryd.prog 91 [.int .i64 k, pt, pl] w (.bool (onB b l k)) := by
  have hlv := hl.sl
  have hlb := hlv.bound
  refine SatL.of 14 [4] Tryd.func91 (by kernel_rfl) (by kernel_rfl) rfl rfl rfl rfl ?_
  repeat' (first|(apply OK_seq)|(apply thenQ_n)|(apply OK_region)|(apply OKx_nilK)|(apply OK_block)|(apply blockQ_n)|(apply blockQ_s)|(apply thenQ_e)|(apply blockQ_e;exact rfl)|(apply thenQ_r)|(apply blockQ_r)|(apply OK_condT;exact rfl)|(apply OK_condF;exact rfl)|(apply OK_skip)|(apply OK_exit)|(apply OK_ret)|(apply OKx_move;(conv=>lhs;whnf)<;>exact rfl)|(apply OKx_assign;(conv=>lhs;whnf)<;>exact rfl)|(apply OKx_ldB;exact rfl;(first | exact at0|exact at1|exact at2|exact at3|exact at4|exact at5|exact at6|exact at7);exact rfl)|(apply OKx_ldR;(conv=>lhs;whnf)<;>exact rfl;(with_reducible assumption))|(apply OKx_ldI;exact rfl;(first | exact at0|exact at1|exact at2|exact at3|exact at4|exact at5|exact at6|exact at7);omega)|(apply OKx_leq;exact rfl;exact rfl;all_goals (intro _; try (exfalso;omega)))|(apply OKx_idxO;exact rfl;exact rfl;omega)|(apply OKx_idxR;(conv=>lhs;whnf)<;>exact rfl;(with_reducible assumption);exact rfl;omega;intro _ _)|(apply OKx_idxOz;exact rfl;exact rfl;omega;omega)|(apply OKx_idxRz;(conv=>lhs;whnf)<;>exact rfl;(with_reducible assumption);exact rfl;omega;omega;intro _ _)|(apply OKx_pickT;exact rfl;(conv=>lhs;whnf)<;>exact rfl)|(apply OKx_pickF;exact rfl;(conv=>lhs;whnf)<;>exact rfl)|(apply OKx_guardT;exact rfl;exact rfl)|(apply OKx_guardF;exact rfl;exact rfl)|(apply OKx_guardU;exact rfl;exact rfl)|(apply OKx_ldBo;exact rfl;(first | exact at0|exact at1|exact at2|exact at3|exact at4|exact at5|exact at6|exact at7);omega))
  · refine bodyQ_r1 (by ((conv=>lhs;whnf)<;>exact rfl)) ?_
    exact ⟨_, Ent.refl _ _, bool_eq (by rw [onB, decide_eq_true (by omega), Bool.true_and]), rfl⟩
  · refine bodyQ_r1 (by ((conv=>lhs;whnf)<;>exact rfl)) ?_
    exact ⟨_, Ent.refl _ _, bool_eq (by rw [onB, decide_eq_false (by omega), Bool.false_and]), rfl⟩
set_option maxRecDepth 100000 in
set_option maxHeartbeats 4000000 in
theorem path2_sat (pt pl vl : Value) (l : List Bool) (b : Nat) (k : Int) (w : World) (h1 : Pt1 w pt (.int .i64 (b : Int))) (h2 : Pt1 w pl vl) (hl : Bools w vl l) (hb : b < l.length) (h0 : 0 ≤ k) : SatV Tryd.prog 92 [.int .i64 k, pt, pl] w (.bool (onB b l k)) := by
  have hlv := hl.sl
  have hlb := hlv.bound
  refine SatL.of 14 [4] Tryd.func92 (by kernel_rfl) (by kernel_rfl) rfl rfl rfl rfl ?_
  repeat' (first|(apply OK_seq)|(apply thenQ_n)|(apply OK_region)|(apply OKx_nilK)|(apply OK_block)|(apply blockQ_n)|(apply blockQ_s)|(apply thenQ_e)|(apply blockQ_e;exact rfl)|(apply thenQ_r)|(apply blockQ_r)|(apply OK_condT;exact rfl)|(apply OK_condF;exact rfl)|(apply OK_skip)|(apply OK_exit)|(apply OK_ret)|(apply OKx_move;(conv=>lhs;whnf)<;>exact rfl)|(apply OKx_assign;(conv=>lhs;whnf)<;>exact rfl)|(apply OKx_ldB;exact rfl;(first | exact at0|exact at1|exact at2|exact at3|exact at4|exact at5|exact at6|exact at7);exact rfl)|(apply OKx_ldR;(conv=>lhs;whnf)<;>exact rfl;(with_reducible assumption))|(apply OKx_ldI;exact rfl;(first | exact at0|exact at1|exact at2|exact at3|exact at4|exact at5|exact at6|exact at7);omega)|(apply OKx_leq;exact rfl;exact rfl;all_goals (intro _; try (exfalso;omega)))|(apply OKx_idxO;exact rfl;exact rfl;omega)|(apply OKx_idxR;(conv=>lhs;whnf)<;>exact rfl;(with_reducible assumption);exact rfl;omega;intro _ _)|(apply OKx_idxOz;exact rfl;exact rfl;omega;omega)|(apply OKx_idxRz;(conv=>lhs;whnf)<;>exact rfl;(with_reducible assumption);exact rfl;omega;omega;intro _ _)|(apply OKx_pickT;exact rfl;(conv=>lhs;whnf)<;>exact rfl)|(apply OKx_pickF;exact rfl;(conv=>lhs;whnf)<;>exact rfl)|(apply OKx_guardT;exact rfl;exact rfl)|(apply OKx_guardF;exact rfl;exact rfl)|(apply OKx_guardU;exact rfl;exact rfl)|(apply OKx_ldBo;exact rfl;(first | exact at0|exact at1|exact at2|exact at3|exact at4|exact at5|exact at6|exact at7);omega))
  · refine bodyQ_r1 (by ((conv=>lhs;whnf)<;>exact rfl)) ?_
    exact ⟨_, Ent.refl _ _, bool_eq (by rw [onB, decide_eq_true (by omega), Bool.true_and]), rfl⟩
  · refine bodyQ_r1 (by ((conv=>lhs;whnf)<;>exact rfl)) ?_
    exact ⟨_, Ent.refl _ _, bool_eq (by rw [onB, decide_eq_false (by omega), Bool.false_and]), rfl⟩
def ldA (par : List (List Int)) (n b : Nat) : Nat → List Bool
  | 0 => (List.replicate n false).set b true
  | t + 1 => (ldA par n b t).set (b - (t + 1)) ((CP par (b - (t + 1)) n 0).any (onB b (ldA par n b t)))
theorem ldA_len (par : List (List Int)) (n b t : Nat) : (ldA par n b t).length = n := by
  induction t with
  | zero => simp [ldA]
  | succ t ih => rw [ldA, List.length_set, ih]
inductive Rch (par : List (List Int)) (b : Nat) : Nat → Prop
  | here : Rch par b b
  | up (i k : Nat) : i < k → k < par.length → (i : Int) ∈ par.getD k [] → Rch par b k → Rch par b i
theorem Rch.le {par : List (List Int)} {b i : Nat} (h : Rch par b i) : i ≤ b := by
  induction h with
  | here => exact Nat.le_refl _
  | up i k h1 _ _ _ ih => omega
theorem CP_mem (par : List (List Int)) (p n : Nat) (x : Int) : x ∈ CP par p n 0 ↔ ∃ k : Nat, k < n ∧ x = (k : Int) ∧ (p : Int) ∈ par.getD k [] := by
  unfold CP
  simp only [List.take_zero, List.mem_append, List.mem_map, List.mem_filter, List.mem_range, List.contains_iff_mem]
  constructor
  · rintro (⟨k, ⟨h1, h2⟩, rfl⟩ | h)
    · exact ⟨k, h1, rfl, h2⟩
    · simp at h
  · rintro ⟨k, h1, rfl, h2⟩
    exact .inl ⟨k, ⟨h1, h2⟩, rfl⟩
theorem setB_getD (xs : List Bool) (i j : Nat) (v : Bool) : (xs.set i v).getD j false = if i = j ∧ i < xs.length then v else xs.getD j false := by
  simp only [List.getD_eq_getElem?_getD, List.getElem?_set]
  by_cases h : i = j
  · subst h
    by_cases hl : i < xs.length
    · simp [hl]
    · simp [hl]
  · simp [h]
theorem ldA_spec (par : List (List Int)) (b : Nat) (hok : okPar par) (hb : b < par.length) : ∀ t, t ≤ b → ∀ i, b - t ≤ i → ((ldA par par.length b t).getD i false = true ↔ Rch par b i) := by
  intro t
  induction t with
  | zero =>
    intro _ i hi
    rw [ldA, setB_getD]
    constructor
    · intro h
      split at h
      · rename_i h1; rw [← h1.1]; exact .here
      · simp only [List.getD_eq_getElem?_getD, List.getElem?_replicate] at h
        split at h <;> simp at h
    · intro h
      obtain rfl : b = i := by have := h.le;omega
      rw [if_pos ⟨rfl, by simpa using hb⟩]
  | succ t ih =>
    intro ht i hi
    have ih := ih (by omega)
    rw [ldA, setB_getD, ldA_len]
    by_cases he : b - (t + 1) = i
    · rw [if_pos ⟨he, by omega⟩, he, List.any_eq_true]
      constructor
      · rintro ⟨x, hx, hon⟩
        obtain ⟨k, hk, rfl, hm⟩ := (CP_mem par i par.length x).1 hx
        have hik : i < k := by
          have := hok k hk (i : Int) (by simpa [hk] using hm)
          omega
        simp only [onB, Bool.and_eq_true, decide_eq_true_eq, Int.toNat_natCast] at hon
        exact .up i k hik hk hm ((ih k (by omega)).1 hon.2)
      · intro h
        cases h with
        | here => omega
        | up _ k h1 h2 h3 h4 =>
          have hkb := h4.le
          refine ⟨(k : Int), (CP_mem par i par.length _).2 ⟨k, h2, rfl, h3⟩, ?_⟩
          simp only [onB, Bool.and_eq_true, decide_eq_true_eq, Int.toNat_natCast]
          exact ⟨by omega, (ih k (by omega)).2 h4⟩
    · rw [if_neg (fun h => he h.1)]
      exact ih i (by omega)
def pthR (par : List (List Int)) (n b : Nat) (l : List Bool) : Nat → Nat → List Int
  | 0, _ => []
  | f + 1, at' => if at' = b then [] else match (CP par at' n 0).find? (onB b l) with
    | some k => k :: pthR par n b l f k.toNat
    | none => []
def leads (par : List (List Int)) (b : Nat) : List Bool := ldA par par.length b b
def pathL (par : List (List Int)) (a b : Nat) : List Int := (a : Int) :: pthR par par.length b (leads par b) par.length a
def PathR (par : List (List Int)) (a b : Nat) (u : Value) (L : List Res) : Prop :=
  ((leads par b).getD a false = true ∧ ∃ v, u = .tuple #[v, .bool true] ∧ L = [irow v (pathL par a b)]) ∨ ((leads par b).getD a false = false ∧ u = .tuple #[.slice none 0 0, .bool false] ∧ L = [])
theorem bools_rep (n : Nat) (b : Bool) : bools (List.replicate n b) = List.replicate n (Value.bool b) := by simp [bools]
theorem fam_at0 (n : Nat) (V : Nat → Value) (C : Nat → List Int) (p : Nat) (h : p < n) : (fam n V C)[p]? = some (irow (V p) (C p)) := by
  have := fam_at n V C [] p h
  rwa [List.append_nil] at this
theorem permA {X : List Res} {o p q : Res} : (X ++ [o] ++ [p, q]).Perm (q :: p :: o :: X) := by
  rw [List.append_assoc]
  exact List.perm_append_comm.trans ((List.reverse_perm [o, p, q]).symm.append_right X)
set_option maxRecDepth 100000 in
set_option maxHeartbeats 4000000 in
theorem path_sat (nv ev pv : Value) (names : List ByteArray) (par : List (List Int)) (a b : Nat) (w : World) (hS : Strs w nv names) (hP : Tabs w pv par) (hpl : par.length = names.length) (hn : par.length ≤ 64) (hok : okPar par) (hinc : ∀ i, i < par.length → (par.getD i []).Pairwise (· < ·)) (hab : a < b) (hb : b < par.length) :
    Sat Tryd.prog 65 [.agg #[nv, ev, pv], .int .i64 (a : Int), .int .i64 (b : Int)] w (PathR par a b) := by
  have hnv := hS.sl
  rw [← hpl] at hnv
  have hll : (leads par b).length = par.length := ldA_len _ _ _ _
  generalize hN : par.length = N at *
  have hCl : ∀ p, (CP par p N 0).length ≤ N + 1 := fun p => CP_len par p N 0
  have hC0 : ∀ p j, j < (CP par p N 0).length → 0 ≤ (CP par p N 0).getD j 0 := fun p j hj => by
    obtain ⟨k, _, e, _⟩ := (CP_mem par p N _).1 (List.getElem_mem hj)
    rw [getD_lt _ _ _ hj, e];omega
  refine SatL.of 69 [6, 7] Tryd.func65 (by kernel_rfl) (by kernel_rfl) rfl rfl rfl rfl ?_
  repeat' (first|(apply OK_seq)|(apply thenQ_n)|(apply OK_region)|(apply OKx_gc 90;exact rfl; refine OKx_call (f := 90) rfl rfl (fun w hp => (copies_sat nv ev pv par w (hP.below hp.below) (by omega) hok (by rw [hN]; exact hinc)).row) ?_; rintro _ _ ⟨⟨gm, cm, Fk, V, rfl, rfl, hF⟩, hsh⟩; rw [hN] at hF hsh ⊢; refine OKx_ent (Ent.perm permA) ?_)|(refine OKx_make rfl rfl rfl (by omega) (by omega) ?_; intro gl; rw [← bools_rep])|(refine OK_rid 7 ?_; refine OK_mix [0, 1] [2, 3, 4, 5] [] [6, 7, 8] [] (id := 7) (by kernel_rfl) (by kernel_rfl) rfl (Ent.nil) (by ((try simp only [pickO, nthO, List.cons_append, List.nil_append]) <;> exact rfl)) (by ((try simp only [pickO, nthO, List.cons_append, List.nil_append]) <;> exact rfl)) (by ((try simp only [pickO]) <;> exact rfl)) (by ((try simp only [pickO, nthO, List.cons_append, List.nil_append]) <;> exact rfl)) ?_)|(apply OKx_nilK)|(apply OK_block)|(apply blockQ_n)|(apply blockQ_s)|(apply thenQ_e)|(apply blockQ_e;exact rfl)|(apply thenQ_r)|(apply blockQ_r)|(apply OK_condT;exact rfl)|(apply OK_condF;exact rfl)|(apply OK_skip)|(apply OK_exit)|(apply OK_ret)|(apply OKx_move;(conv=>lhs;whnf)<;>exact rfl)|(apply OKx_assign;(conv=>lhs;whnf)<;>exact rfl)|(apply OKx_ldB;exact rfl;(first | exact at0|exact at1|exact at2|exact at3|exact at4|exact at5|exact at6|exact at7);exact rfl)|(apply OKx_ldR;(conv=>lhs;whnf)<;>exact rfl;(with_reducible assumption))|(apply OKx_ldI;exact rfl;(first | exact at0|exact at1|exact at2|exact at3|exact at4|exact at5|exact at6|exact at7);omega)|(apply OKx_len;exact rfl)|(apply OKx_lenR;(conv=>lhs;whnf)<;>exact rfl;(with_reducible assumption))|(apply OKx_lenR2;(conv=>lhs;whnf)<;>exact rfl;(with_reducible assumption))|(apply OKx_lenO;(conv=>lhs;whnf)<;>exact rfl;(first | exact at0|exact at1|exact at2|exact at3|exact at4|exact at5|exact at6|exact at7))|(apply OKx_gtr;exact rfl;exact rfl;all_goals (intro _; try (exfalso;omega)))|(apply OKx_geq;exact rfl;exact rfl;all_goals (intro _; try (exfalso;omega)))|(apply OKx_neq;exact rfl;exact rfl;all_goals (intro _; try (exfalso;omega)))|(apply OKx_idxO;exact rfl;exact rfl;omega)|(apply OKx_idxR;(conv=>lhs;whnf)<;>exact rfl;(with_reducible assumption);exact rfl;omega;intro _ _)|(apply OKx_idxOz;exact rfl;exact rfl;omega;omega)|(apply OKx_idxRz;(conv=>lhs;whnf)<;>exact rfl;(with_reducible assumption);exact rfl;omega;omega;intro _ _)|(apply OKx_fldO;exact rfl;exact rfl)|(apply OKx_fldR;(conv=>lhs;whnf)<;>exact rfl;(with_reducible assumption); decide;intro _ _)|(apply OKx_dec;exact rfl;exact rfl;omega;omega)|(apply OKx_subN;exact rfl;exact rfl;omega;omega)|(apply OKx_sub;exact rfl;exact rfl;omega;omega)|(apply OKx_pickT;exact rfl;(conv=>lhs;whnf)<;>exact rfl)|(apply OKx_pickF;exact rfl;(conv=>lhs;whnf)<;>exact rfl)|(apply OKx_guardT;exact rfl;exact rfl)|(apply OKx_guardF;exact rfl;exact rfl)|(apply OKx_guardU;exact rfl;exact rfl)|(apply OKx_notT;exact rfl)|(apply OKx_notF;exact rfl)|(apply OKx_boxA;exact rfl;intro _)|(apply OKx_alloc1;intro _)|(apply OKx_ldBA;exact rfl;(first | exact at0|exact at1|exact at2|exact at3|exact at4|exact at5|exact at6|exact at7);exact rfl)|(apply OKx_ldRA;(conv=>lhs;whnf)<;>exact rfl;(with_reducible assumption))|(apply OKx_stB;exact rfl;(conv=>lhs;whnf)<;>exact rfl;exact rfl;exact rfl;(first | exact at0|exact at1|exact at2|exact at3|exact at4|exact at5|exact at6|exact at7);exact rfl;exact rfl;exact rfl)|(apply OKx_ldBo;exact rfl;(first | exact at0|exact at1|exact at2|exact at3|exact at4|exact at5|exact at6|exact at7);omega)|(apply OKx_stBo;exact rfl;exact rfl;(first | exact at0|exact at1|exact at2|exact at3|exact at4|exact at5|exact at6|exact at7);omega;exact rfl)|(apply OKx_slit1;(conv=>lhs;whnf)<;>exact rfl;exact rfl;intro _)|(apply OKx_box1;(conv=>lhs;whnf)<;>exact rfl;exact rfl;intro _)|(apply OKx_func;exact rfl;exact rfl))
  have hFz : ∀ z : Int, 0 ≤ z → z < N → (Fk (.int .i64 z)).getD (.slice none 0 0) = V z.toNat := fun z h1 h2 => by
    have := hF z.toNat (by omega)
    rwa [Int.toNat_of_nonneg h1] at this
  rename_i gs g5 g9
  refine OK_loop1 10 [10, 25, 26, 27, 28, 29, 30, 31, 32, 33, 34, 35, 36] (fun m v L => ∃ (t : Nat) (z : Int), t + m = b ∧ v = .int .i64 z ∧ z = (b : Int) - 1 - t ∧ L = .box 23 g9 [.slice (some ⟨gl, 0, none⟩) N N] :: .row 4 1 (.slice (some ⟨gl, 0, none⟩) N N) N (bools (ldA par N b t)) :: .box 3 g5 [.int .i64 (b : Int)] :: .obj gm (MapIs Tryd.prog 3 cm Fk) :: fam N V (fun p => CP par p N 0)) b _ (Ent.sub (by exact .cons_cons _ (.cons_cons _ (.cons _ (.refl _))))) ⟨0, _, by omega, rfl, by omega, rfl⟩ ?_
  rintro m v L G ⟨t, z, hm, rfl, hz, rfl⟩
  have hlt : (ldA par N b t).length = N := ldA_len _ _ _ _
  repeat' (first|(apply OK_seq)|(apply thenQ_n)|(apply OK_region) | refine OKx_look 3 rfl rfl rfl TKeyI Tryd.underlying127 zeroInts (keyI _ (by omega) (by omega)) (litI _) (hFz _ (by omega) (by omega)) ?_|(apply OKx_gc 44;exact rfl; refine OKx_callV (f := 44) (v := .bool ((CP par z.toNat N 0).any (onB b (ldA par N b t)))) rfl rfl rfl (fun w1 hp => by
        rw [← anyN_list]
        exact containsF_int_sat _ _ _ _ _ _ w1 (hp.ints (z.toNat + 4) (fam_at0 _ _ _ _ (by omega)) (by have := hCl z.toNat;omega)).sl (fun j hj w2 hb2 => path1_sat _ _ _ (ldA par N b t) b _ w2 (Pt1.below ⟨_, _, rfl, (hp.boxAt 2 rfl).1 0⟩ hb2) (Pt1.below ⟨_, _, rfl, (hp.boxAt 0 rfl).1 0⟩ hb2) ((hp.bools 1 rfl (by omega)).below hb2) (by omega) (hC0 _ j hj))) ?_)|(refine OK_rid 7 ?_; refine OK_mix [0, 1] [2, 3, 4, 5] [] [6, 7, 8] [.box 23 g9 [.slice (some ⟨gl, 0, none⟩) N N]] (id := 7) (by kernel_rfl) (by kernel_rfl) rfl (by first | exact Ent.pick [0] rfl) (by ((try simp only [pickO, nthO, List.cons_append, List.nil_append]) <;> exact rfl)) (by ((try simp only [pickO, nthO, List.cons_append, List.nil_append]) <;> exact rfl)) (by ((try simp only [pickO]) <;> exact rfl)) (by ((try simp only [pickO, nthO, List.cons_append, List.nil_append]) <;> exact rfl)) ?_)|(apply OKx_nilK)|(apply OK_block)|(apply blockQ_n)|(apply blockQ_s)|(apply thenQ_e)|(apply blockQ_e;exact rfl)|(apply thenQ_r)|(apply blockQ_r)|(apply OK_condT;exact rfl)|(apply OK_condF;exact rfl)|(apply OK_skip)|(apply OK_exit)|(apply OK_ret)|(apply OKx_move;(conv=>lhs;whnf)<;>exact rfl)|(apply OKx_assign;(conv=>lhs;whnf)<;>exact rfl)|(apply OKx_ldB;exact rfl;(first | exact at0|exact at1|exact at2|exact at3|exact at4|exact at5|exact at6|exact at7);exact rfl)|(apply OKx_ldR;(conv=>lhs;whnf)<;>exact rfl;(with_reducible assumption))|(apply OKx_ldI;exact rfl;(first | exact at0|exact at1|exact at2|exact at3|exact at4|exact at5|exact at6|exact at7);omega)|(apply OKx_len;exact rfl)|(apply OKx_lenR;(conv=>lhs;whnf)<;>exact rfl;(with_reducible assumption))|(apply OKx_lenR2;(conv=>lhs;whnf)<;>exact rfl;(with_reducible assumption))|(apply OKx_lenO;(conv=>lhs;whnf)<;>exact rfl;(first | exact at0|exact at1|exact at2|exact at3|exact at4|exact at5|exact at6|exact at7))|(apply OKx_gtr;exact rfl;exact rfl;all_goals (intro _; try (exfalso;omega)))|(apply OKx_geq;exact rfl;exact rfl;all_goals (intro _; try (exfalso;omega)))|(apply OKx_neq;exact rfl;exact rfl;all_goals (intro _; try (exfalso;omega)))|(apply OKx_idxO;exact rfl;exact rfl;omega)|(apply OKx_idxR;(conv=>lhs;whnf)<;>exact rfl;(with_reducible assumption);exact rfl;omega;intro _ _)|(apply OKx_idxOz;exact rfl;exact rfl;omega;omega)|(apply OKx_idxRz;(conv=>lhs;whnf)<;>exact rfl;(with_reducible assumption);exact rfl;omega;omega;intro _ _)|(apply OKx_fldO;exact rfl;exact rfl)|(apply OKx_fldR;(conv=>lhs;whnf)<;>exact rfl;(with_reducible assumption); decide;intro _ _)|(apply OKx_dec;exact rfl;exact rfl;omega;omega)|(apply OKx_subN;exact rfl;exact rfl;omega;omega)|(apply OKx_sub;exact rfl;exact rfl;omega;omega)|(apply OKx_pickT;exact rfl;(conv=>lhs;whnf)<;>exact rfl)|(apply OKx_pickF;exact rfl;(conv=>lhs;whnf)<;>exact rfl)|(apply OKx_guardT;exact rfl;exact rfl)|(apply OKx_guardF;exact rfl;exact rfl)|(apply OKx_guardU;exact rfl;exact rfl)|(apply OKx_notT;exact rfl)|(apply OKx_notF;exact rfl)|(apply OKx_boxA;exact rfl;intro _)|(apply OKx_alloc1;intro _)|(apply OKx_ldBA;exact rfl;(first | exact at0|exact at1|exact at2|exact at3|exact at4|exact at5|exact at6|exact at7);exact rfl)|(apply OKx_ldRA;(conv=>lhs;whnf)<;>exact rfl;(with_reducible assumption))|(apply OKx_stB;exact rfl;(conv=>lhs;whnf)<;>exact rfl;exact rfl;exact rfl;(first | exact at0|exact at1|exact at2|exact at3|exact at4|exact at5|exact at6|exact at7);exact rfl;exact rfl;exact rfl)|(apply OKx_ldBo;exact rfl;(first | exact at0|exact at1|exact at2|exact at3|exact at4|exact at5|exact at6|exact at7);omega)|(apply OKx_stBo;exact rfl;exact rfl;(first | exact at0|exact at1|exact at2|exact at3|exact at4|exact at5|exact at6|exact at7);omega;exact rfl)|(apply OKx_slit1;(conv=>lhs;whnf)<;>exact rfl;exact rfl;intro _)|(apply OKx_box1;(conv=>lhs;whnf)<;>exact rfl;exact rfl;intro _)|(apply OKx_func;exact rfl;exact rfl))
  · have hzt : z.toNat = b - (t + 1) := by omega
    have hld : (ldA par N b t).set z.toNat ((CP par z.toNat N 0).any (onB b (ldA par N b t))) = ldA par N b (t + 1) := by rw [hzt]; rfl
    rw [hld]
    refine OKx_ent (L' := .box 23 g9 [.slice (some ⟨gl, 0, none⟩) N N] :: .row 4 1 (.slice (some ⟨gl, 0, none⟩) N N) N (bools (ldA par N b (t + 1))) :: .box 3 g5 [.int .i64 (b : Int)] :: .obj gm (MapIs Tryd.prog 3 cm Fk) :: fam N V (fun p => CP par p N 0)) (Ent.refl _ _) ?_
    repeat' (first|(apply OK_seq)|(apply thenQ_n)|(apply OK_region)|(refine OK_rid 7 ?_; refine OK_mix [0, 1] [2, 3, 4, 5] [] [6, 7, 8] [] (id := 7) (by kernel_rfl) (by kernel_rfl) rfl (Ent.nil) (by ((try simp only [pickO, nthO, List.cons_append, List.nil_append]) <;> exact rfl)) (by ((try simp only [pickO, nthO, List.cons_append, List.nil_append]) <;> exact rfl)) (by ((try simp only [pickO]) <;> exact rfl)) (by ((try simp only [pickO, nthO, List.cons_append, List.nil_append]) <;> exact rfl)) ?_)|(apply OKx_nilK)|(apply OK_block)|(apply blockQ_n)|(apply blockQ_s)|(apply thenQ_e)|(apply blockQ_e;exact rfl)|(apply thenQ_r)|(apply blockQ_r)|(apply OK_condT;exact rfl)|(apply OK_condF;exact rfl)|(apply OK_skip)|(apply OK_exit)|(apply OK_ret)|(apply OKx_move;(conv=>lhs;whnf)<;>exact rfl)|(apply OKx_assign;(conv=>lhs;whnf)<;>exact rfl)|(apply OKx_ldB;exact rfl;(first | exact at0|exact at1|exact at2|exact at3|exact at4|exact at5|exact at6|exact at7);exact rfl)|(apply OKx_ldR;(conv=>lhs;whnf)<;>exact rfl;(with_reducible assumption))|(apply OKx_ldI;exact rfl;(first | exact at0|exact at1|exact at2|exact at3|exact at4|exact at5|exact at6|exact at7);omega)|(apply OKx_len;exact rfl)|(apply OKx_lenR;(conv=>lhs;whnf)<;>exact rfl;(with_reducible assumption))|(apply OKx_lenR2;(conv=>lhs;whnf)<;>exact rfl;(with_reducible assumption))|(apply OKx_lenO;(conv=>lhs;whnf)<;>exact rfl;(first | exact at0|exact at1|exact at2|exact at3|exact at4|exact at5|exact at6|exact at7))|(apply OKx_gtr;exact rfl;exact rfl;all_goals (intro _; try (exfalso;omega)))|(apply OKx_geq;exact rfl;exact rfl;all_goals (intro _; try (exfalso;omega)))|(apply OKx_neq;exact rfl;exact rfl;all_goals (intro _; try (exfalso;omega)))|(apply OKx_idxO;exact rfl;exact rfl;omega)|(apply OKx_idxR;(conv=>lhs;whnf)<;>exact rfl;(with_reducible assumption);exact rfl;omega;intro _ _)|(apply OKx_idxOz;exact rfl;exact rfl;omega;omega)|(apply OKx_idxRz;(conv=>lhs;whnf)<;>exact rfl;(with_reducible assumption);exact rfl;omega;omega;intro _ _)|(apply OKx_fldO;exact rfl;exact rfl)|(apply OKx_fldR;(conv=>lhs;whnf)<;>exact rfl;(with_reducible assumption); decide;intro _ _)|(apply OKx_dec;exact rfl;exact rfl;omega;omega)|(apply OKx_subN;exact rfl;exact rfl;omega;omega)|(apply OKx_sub;exact rfl;exact rfl;omega;omega)|(apply OKx_pickT;exact rfl;(conv=>lhs;whnf)<;>exact rfl)|(apply OKx_pickF;exact rfl;(conv=>lhs;whnf)<;>exact rfl)|(apply OKx_guardT;exact rfl;exact rfl)|(apply OKx_guardF;exact rfl;exact rfl)|(apply OKx_guardU;exact rfl;exact rfl)|(apply OKx_notT;exact rfl)|(apply OKx_notF;exact rfl)|(apply OKx_boxA;exact rfl;intro _)|(apply OKx_alloc1;intro _)|(apply OKx_ldBA;exact rfl;(first | exact at0|exact at1|exact at2|exact at3|exact at4|exact at5|exact at6|exact at7);exact rfl)|(apply OKx_ldRA;(conv=>lhs;whnf)<;>exact rfl;(with_reducible assumption))|(apply OKx_stB;exact rfl;(conv=>lhs;whnf)<;>exact rfl;exact rfl;exact rfl;(first | exact at0|exact at1|exact at2|exact at3|exact at4|exact at5|exact at6|exact at7);exact rfl;exact rfl;exact rfl)|(apply OKx_ldBo;exact rfl;(first | exact at0|exact at1|exact at2|exact at3|exact at4|exact at5|exact at6|exact at7);omega)|(apply OKx_stBo;exact rfl;exact rfl;(first | exact at0|exact at1|exact at2|exact at3|exact at4|exact at5|exact at6|exact at7);omega;exact rfl)|(apply OKx_slit1;(conv=>lhs;whnf)<;>exact rfl;exact rfl;intro _)|(apply OKx_box1;(conv=>lhs;whnf)<;>exact rfl;exact rfl;intro _)|(apply OKx_func;exact rfl;exact rfl))
    refine ⟨by (repeat' (first | refine agree_upd rfl ?_ | exact agree_over | exact agree_refl _ _ | refine agree_over2 rfl ?_)), m - 1, _, by omega, Ent.refl _ _, ?_⟩
    exact ⟨t + 1, _, by omega, rfl, by omega, rfl⟩
  · obtain rfl : t = b := by omega
    cases hq : (ldA par N t t).getD a false
    · repeat' (first|(apply OK_seq)|(apply thenQ_n)|(apply OK_region)|(refine OK_rid 7 ?_; refine OK_mix [0, 1] [2, 3, 4, 5] [] [6, 7, 8] [] (id := 7) (by kernel_rfl) (by kernel_rfl) rfl (Ent.nil) (by ((try simp only [pickO, nthO, List.cons_append, List.nil_append]) <;> exact rfl)) (by ((try simp only [pickO, nthO, List.cons_append, List.nil_append]) <;> exact rfl)) (by ((try simp only [pickO]) <;> exact rfl)) (by ((try simp only [pickO, nthO, List.cons_append, List.nil_append]) <;> exact rfl)) ?_)|(apply OKx_nilK)|(apply OK_block)|(apply blockQ_n)|(apply blockQ_s)|(apply thenQ_e)|(apply blockQ_e;exact rfl)|(apply thenQ_r)|(apply blockQ_r)|(apply OK_condT;exact rfl)|(apply OK_condF;exact rfl)|(apply OK_skip)|(apply OK_exit)|(apply OK_ret)|(apply OKx_move;(conv=>lhs;whnf)<;>exact rfl)|(apply OKx_assign;(conv=>lhs;whnf)<;>exact rfl)|(apply OKx_ldB;exact rfl;(first | exact at0|exact at1|exact at2|exact at3|exact at4|exact at5|exact at6|exact at7);exact rfl)|(apply OKx_ldR;(conv=>lhs;whnf)<;>exact rfl;(with_reducible assumption))|(apply OKx_ldI;exact rfl;(first | exact at0|exact at1|exact at2|exact at3|exact at4|exact at5|exact at6|exact at7);omega)|(apply OKx_len;exact rfl)|(apply OKx_lenR;(conv=>lhs;whnf)<;>exact rfl;(with_reducible assumption))|(apply OKx_lenR2;(conv=>lhs;whnf)<;>exact rfl;(with_reducible assumption))|(apply OKx_lenO;(conv=>lhs;whnf)<;>exact rfl;(first | exact at0|exact at1|exact at2|exact at3|exact at4|exact at5|exact at6|exact at7))|(apply OKx_gtr;exact rfl;exact rfl;all_goals (intro _; try (exfalso;omega)))|(apply OKx_geq;exact rfl;exact rfl;all_goals (intro _; try (exfalso;omega)))|(apply OKx_neq;exact rfl;exact rfl;all_goals (intro _; try (exfalso;omega)))|(apply OKx_idxO;exact rfl;exact rfl;omega)|(apply OKx_idxR;(conv=>lhs;whnf)<;>exact rfl;(with_reducible assumption);exact rfl;omega;intro _ _)|(apply OKx_idxOz;exact rfl;exact rfl;omega;omega)|(apply OKx_idxRz;(conv=>lhs;whnf)<;>exact rfl;(with_reducible assumption);exact rfl;omega;omega;intro _ _)|(apply OKx_fldO;exact rfl;exact rfl)|(apply OKx_fldR;(conv=>lhs;whnf)<;>exact rfl;(with_reducible assumption); decide;intro _ _)|(apply OKx_dec;exact rfl;exact rfl;omega;omega)|(apply OKx_subN;exact rfl;exact rfl;omega;omega)|(apply OKx_sub;exact rfl;exact rfl;omega;omega)|(apply OKx_pickT;exact rfl;(conv=>lhs;whnf)<;>exact rfl)|(apply OKx_pickF;exact rfl;(conv=>lhs;whnf)<;>exact rfl)|(apply OKx_guardT;exact rfl;exact rfl)|(apply OKx_guardF;exact rfl;exact rfl)|(apply OKx_guardU;exact rfl;exact rfl)|(apply OKx_notT;exact rfl)|(apply OKx_notF;exact rfl)|(apply OKx_boxA;exact rfl;intro _)|(apply OKx_alloc1;intro _)|(apply OKx_ldBA;exact rfl;(first | exact at0|exact at1|exact at2|exact at3|exact at4|exact at5|exact at6|exact at7);exact rfl)|(apply OKx_ldRA;(conv=>lhs;whnf)<;>exact rfl;(with_reducible assumption))|(apply OKx_stB;exact rfl;(conv=>lhs;whnf)<;>exact rfl;exact rfl;exact rfl;(first | exact at0|exact at1|exact at2|exact at3|exact at4|exact at5|exact at6|exact at7);exact rfl;exact rfl;exact rfl)|(apply OKx_ldBo;exact rfl;(first | exact at0|exact at1|exact at2|exact at3|exact at4|exact at5|exact at6|exact at7);omega)|(apply OKx_stBo;exact rfl;exact rfl;(first | exact at0|exact at1|exact at2|exact at3|exact at4|exact at5|exact at6|exact at7);omega;exact rfl)|(apply OKx_slit1;(conv=>lhs;whnf)<;>exact rfl;exact rfl;intro _)|(apply OKx_box1;(conv=>lhs;whnf)<;>exact rfl;exact rfl;intro _)|(apply OKx_func;exact rfl;exact rfl))
      refine bodyQ_r2 (by ((conv=>lhs;whnf)<;>exact rfl)) (by ((conv=>lhs;whnf)<;>exact rfl)) ?_
      exact ⟨_, Ent.nil, .inr ⟨by rw [leads, hN]; exact hq, rfl, rfl⟩⟩
    · repeat' (first|(apply OK_seq)|(apply thenQ_n)|(apply OK_region)|(refine OK_rid 7 ?_; refine OK_mix [0, 1] [2, 3, 4, 5] [] [6, 7, 8] [] (id := 7) (by kernel_rfl) (by kernel_rfl) rfl (Ent.nil) (by ((try simp only [pickO, nthO, List.cons_append, List.nil_append]) <;> exact rfl)) (by ((try simp only [pickO, nthO, List.cons_append, List.nil_append]) <;> exact rfl)) (by ((try simp only [pickO]) <;> exact rfl)) (by ((try simp only [pickO, nthO, List.cons_append, List.nil_append]) <;> exact rfl)) ?_)|(apply OKx_nilK)|(apply OK_block)|(apply blockQ_n)|(apply blockQ_s)|(apply thenQ_e)|(apply blockQ_e;exact rfl)|(apply thenQ_r)|(apply blockQ_r)|(apply OK_condT;exact rfl)|(apply OK_condF;exact rfl)|(apply OK_skip)|(apply OK_exit)|(apply OK_ret)|(apply OKx_move;(conv=>lhs;whnf)<;>exact rfl)|(apply OKx_assign;(conv=>lhs;whnf)<;>exact rfl)|(apply OKx_ldB;exact rfl;(first | exact at0|exact at1|exact at2|exact at3|exact at4|exact at5|exact at6|exact at7);exact rfl)|(apply OKx_ldR;(conv=>lhs;whnf)<;>exact rfl;(with_reducible assumption))|(apply OKx_ldI;exact rfl;(first | exact at0|exact at1|exact at2|exact at3|exact at4|exact at5|exact at6|exact at7);omega)|(apply OKx_len;exact rfl)|(apply OKx_lenR;(conv=>lhs;whnf)<;>exact rfl;(with_reducible assumption))|(apply OKx_lenR2;(conv=>lhs;whnf)<;>exact rfl;(with_reducible assumption))|(apply OKx_lenO;(conv=>lhs;whnf)<;>exact rfl;(first | exact at0|exact at1|exact at2|exact at3|exact at4|exact at5|exact at6|exact at7))|(apply OKx_gtr;exact rfl;exact rfl;all_goals (intro _; try (exfalso;omega)))|(apply OKx_geq;exact rfl;exact rfl;all_goals (intro _; try (exfalso;omega)))|(apply OKx_neq;exact rfl;exact rfl;all_goals (intro _; try (exfalso;omega)))|(apply OKx_idxO;exact rfl;exact rfl;omega)|(apply OKx_idxR;(conv=>lhs;whnf)<;>exact rfl;(with_reducible assumption);exact rfl;omega;intro _ _)|(apply OKx_idxOz;exact rfl;exact rfl;omega;omega)|(apply OKx_idxRz;(conv=>lhs;whnf)<;>exact rfl;(with_reducible assumption);exact rfl;omega;omega;intro _ _)|(apply OKx_fldO;exact rfl;exact rfl)|(apply OKx_fldR;(conv=>lhs;whnf)<;>exact rfl;(with_reducible assumption); decide;intro _ _)|(apply OKx_dec;exact rfl;exact rfl;omega;omega)|(apply OKx_subN;exact rfl;exact rfl;omega;omega)|(apply OKx_sub;exact rfl;exact rfl;omega;omega)|(apply OKx_pickT;exact rfl;(conv=>lhs;whnf)<;>exact rfl)|(apply OKx_pickF;exact rfl;(conv=>lhs;whnf)<;>exact rfl)|(apply OKx_guardT;exact rfl;exact rfl)|(apply OKx_guardF;exact rfl;exact rfl)|(apply OKx_guardU;exact rfl;exact rfl)|(apply OKx_notT;exact rfl)|(apply OKx_notF;exact rfl)|(apply OKx_boxA;exact rfl;intro _)|(apply OKx_alloc1;intro _)|(apply OKx_ldBA;exact rfl;(first | exact at0|exact at1|exact at2|exact at3|exact at4|exact at5|exact at6|exact at7);exact rfl)|(apply OKx_ldRA;(conv=>lhs;whnf)<;>exact rfl;(with_reducible assumption))|(apply OKx_stB;exact rfl;(conv=>lhs;whnf)<;>exact rfl;exact rfl;exact rfl;(first | exact at0|exact at1|exact at2|exact at3|exact at4|exact at5|exact at6|exact at7);exact rfl;exact rfl;exact rfl)|(apply OKx_ldBo;exact rfl;(first | exact at0|exact at1|exact at2|exact at3|exact at4|exact at5|exact at6|exact at7);omega)|(apply OKx_stBo;exact rfl;exact rfl;(first | exact at0|exact at1|exact at2|exact at3|exact at4|exact at5|exact at6|exact at7);omega;exact rfl)|(apply OKx_slit1;(conv=>lhs;whnf)<;>exact rfl;exact rfl;intro _)|(apply OKx_box1;(conv=>lhs;whnf)<;>exact rfl;exact rfl;intro _)|(apply OKx_func;exact rfl;exact rfl))
      rename_i ga
      generalize hld : ldA par N t t = l at *
      refine OK_loop2 11 12 [11, 12, 13, 50, 51, 52, 53, 54, 55, 56, 57, 58, 59, 60, 61, 62, 63, 64, 65, 66, 67] (fun m u v L => ∃ (q f : Nat) (A : List Int) (g c : Nat), q + m = t ∧ t - q < f ∧ u = .slice (some ⟨g, 0, none⟩) A.length c ∧ v = .int .i64 (q : Int) ∧ l.getD q false = true ∧ A ++ pthR par N t l f q = pathL par a t ∧ A.length ≤ q + 1 ∧
        L = irow (.slice (some ⟨g, 0, none⟩) A.length c) A :: .box 23 g9 [.slice (some ⟨gl, 0, none⟩) N N] :: .row 4 1 (.slice (some ⟨gl, 0, none⟩) N N) N (bools l) :: .box 3 g5 [.int .i64 (t : Int)] :: .obj gm (MapIs Tryd.prog 3 cm Fk) :: fam N V (fun p => CP par p N 0)) (t - a) _ (Ent.refl _ _)
        ⟨a, N, [(a : Int)], ga, 1, by omega, by omega, rfl, rfl, hq, by rw [pathL, leads, hN, hld]; rfl, by simp, rfl⟩ ?_
      have hqa := hq
      clear hm hz hq
      rintro m2 u v L G2 ⟨q, f, A, g, c, hm, hf, rfl, rfl, hq, hA, hAl, rfl⟩
      obtain ⟨f, rfl⟩ : ∃ f', f = f' + 1 := ⟨f - 1, by omega⟩
      by_cases hqt : q = t
      · subst hqt
        repeat' (first|(apply OK_seq)|(apply thenQ_n)|(apply OK_region)|(refine OK_rid 7 ?_; refine OK_mix [0, 1] [2, 3, 4, 5] [] [6, 7, 8] [] (id := 7) (by kernel_rfl) (by kernel_rfl) rfl (Ent.nil) (by ((try simp only [pickO, nthO, List.cons_append, List.nil_append]) <;> exact rfl)) (by ((try simp only [pickO, nthO, List.cons_append, List.nil_append]) <;> exact rfl)) (by ((try simp only [pickO]) <;> exact rfl)) (by ((try simp only [pickO, nthO, List.cons_append, List.nil_append]) <;> exact rfl)) ?_)|(apply OKx_nilK)|(apply OK_block)|(apply blockQ_n)|(apply blockQ_s)|(apply thenQ_e)|(apply blockQ_e;exact rfl)|(apply thenQ_r)|(apply blockQ_r)|(apply OK_condT;exact rfl)|(apply OK_condF;exact rfl)|(apply OK_skip)|(apply OK_exit)|(apply OK_ret)|(apply OKx_move;(conv=>lhs;whnf)<;>exact rfl)|(apply OKx_assign;(conv=>lhs;whnf)<;>exact rfl)|(apply OKx_ldB;exact rfl;(first | exact at0|exact at1|exact at2|exact at3|exact at4|exact at5|exact at6|exact at7);exact rfl)|(apply OKx_ldR;(conv=>lhs;whnf)<;>exact rfl;(with_reducible assumption))|(apply OKx_ldI;exact rfl;(first | exact at0|exact at1|exact at2|exact at3|exact at4|exact at5|exact at6|exact at7);omega)|(apply OKx_len;exact rfl)|(apply OKx_lenR;(conv=>lhs;whnf)<;>exact rfl;(with_reducible assumption))|(apply OKx_lenR2;(conv=>lhs;whnf)<;>exact rfl;(with_reducible assumption))|(apply OKx_lenO;(conv=>lhs;whnf)<;>exact rfl;(first | exact at0|exact at1|exact at2|exact at3|exact at4|exact at5|exact at6|exact at7))|(apply OKx_gtr;exact rfl;exact rfl;all_goals (intro _; try (exfalso;omega)))|(apply OKx_geq;exact rfl;exact rfl;all_goals (intro _; try (exfalso;omega)))|(apply OKx_neq;exact rfl;exact rfl;all_goals (intro _; try (exfalso;omega)))|(apply OKx_idxO;exact rfl;exact rfl;omega)|(apply OKx_idxR;(conv=>lhs;whnf)<;>exact rfl;(with_reducible assumption);exact rfl;omega;intro _ _)|(apply OKx_idxOz;exact rfl;exact rfl;omega;omega)|(apply OKx_idxRz;(conv=>lhs;whnf)<;>exact rfl;(with_reducible assumption);exact rfl;omega;omega;intro _ _)|(apply OKx_fldO;exact rfl;exact rfl)|(apply OKx_fldR;(conv=>lhs;whnf)<;>exact rfl;(with_reducible assumption); decide;intro _ _)|(apply OKx_dec;exact rfl;exact rfl;omega;omega)|(apply OKx_subN;exact rfl;exact rfl;omega;omega)|(apply OKx_sub;exact rfl;exact rfl;omega;omega)|(apply OKx_pickT;exact rfl;(conv=>lhs;whnf)<;>exact rfl)|(apply OKx_pickF;exact rfl;(conv=>lhs;whnf)<;>exact rfl)|(apply OKx_guardT;exact rfl;exact rfl)|(apply OKx_guardF;exact rfl;exact rfl)|(apply OKx_guardU;exact rfl;exact rfl)|(apply OKx_notT;exact rfl)|(apply OKx_notF;exact rfl)|(apply OKx_boxA;exact rfl;intro _)|(apply OKx_alloc1;intro _)|(apply OKx_ldBA;exact rfl;(first | exact at0|exact at1|exact at2|exact at3|exact at4|exact at5|exact at6|exact at7);exact rfl)|(apply OKx_ldRA;(conv=>lhs;whnf)<;>exact rfl;(with_reducible assumption))|(apply OKx_stB;exact rfl;(conv=>lhs;whnf)<;>exact rfl;exact rfl;exact rfl;(first | exact at0|exact at1|exact at2|exact at3|exact at4|exact at5|exact at6|exact at7);exact rfl;exact rfl;exact rfl)|(apply OKx_ldBo;exact rfl;(first | exact at0|exact at1|exact at2|exact at3|exact at4|exact at5|exact at6|exact at7);omega)|(apply OKx_stBo;exact rfl;exact rfl;(first | exact at0|exact at1|exact at2|exact at3|exact at4|exact at5|exact at6|exact at7);omega;exact rfl)|(apply OKx_slit1;(conv=>lhs;whnf)<;>exact rfl;exact rfl;intro _)|(apply OKx_box1;(conv=>lhs;whnf)<;>exact rfl;exact rfl;intro _)|(apply OKx_func;exact rfl;exact rfl))
        refine bodyQ_r2 (by ((conv=>lhs;whnf)<;>exact rfl)) (by ((conv=>lhs;whnf)<;>exact rfl)) ?_
        exact ⟨_, Ent.pick [0] rfl, .inl ⟨by rw [leads, hN, hld]; exact hqa, _, rfl, by rw [← hA, pthR, if_pos rfl, List.append_nil]; rfl⟩⟩
      have hqt' : q < t := by omega
      have hsp := ldA_spec par t hok (by omega) t (Nat.le_refl _) 
      rw [hN, hld] at hsp
      have hex : ∃ k : Nat, k < N ∧ (k : Int) ∈ CP par q N 0 ∧ onB t l (k : Int) = true := by
        cases (hsp q (by omega)).1 hq with
        | here => omega
        | up _ k h1 h2 h3 h4 =>
          have hkb := h4.le
          refine ⟨k, by omega, (CP_mem par q N _).2 ⟨k, by omega, rfl, h3⟩, ?_⟩
          simp only [onB, Bool.and_eq_true, decide_eq_true_eq, Int.toNat_natCast]
          exact ⟨by omega, (hsp k (by omega)).2 h4⟩
      have hpos : 0 < (CP par q N 0).length := by obtain ⟨k, _, h1, _⟩ := hex; exact List.length_pos_of_mem h1
      obtain ⟨gv, cv, hV⟩ := (hsh 3 1 (V q) (CP par q N 0).length (ints (CP par q N 0)) (List.mem_append_left _ (List.mem_map.2 ⟨q, List.mem_range.2 (by omega), rfl⟩))).2 hpos
      have hrow : (fam N V (fun p => CP par p N 0))[q]? = some (.row 3 1 (.slice (some ⟨gv, 0, none⟩) (CP par q N 0).length cv) (CP par q N 0).length (ints (CP par q N 0))) := by
        rw [fam_at0 _ _ _ _ (by omega), irow, hV]
      have hlook : (Fk (.int .i64 (q : Int))).getD (.slice none 0 0) = .slice (some ⟨gv, 0, none⟩) (CP par q N 0).length cv := by rw [hF q (by omega), hV]
      have hcl := hCl q
      have hc0 := hC0 q
      have hcm := CP_mem par q N
      generalize hxs : CP par q N 0 = xs at *
      repeat' (first|(apply OK_seq)|(apply thenQ_n)|(apply OK_region) | refine OKx_look 4 rfl rfl rfl TKeyI Tryd.underlying127 zeroInts (keyI _ (by omega) (by omega)) (litI _) hlook ?_|(apply OKx_gc 73;exact rfl; refine OKx_call (f := 73) rfl rfl (fun w1 hp => indexW_int_sat _ xs.length (fun j => .int .i64 (xs.getD j 0)) (fun j => onB t l (xs.getD j 0)) _ _ w1 (hp.ints (q + 5) hrow (by omega)).sl (fun j hj w2 hb2 => path2_sat _ _ _ l t _ w2 (Pt1.below ⟨_, _, rfl, (hp.boxAt 3 rfl).1 0⟩ hb2) (Pt1.below ⟨_, _, rfl, (hp.boxAt 1 rfl).1 0⟩ hb2) ((hp.bools 2 rfl (by omega)).below hb2) (by omega) (hc0 j hj))) ?_; rintro _ _ ⟨rfl, (⟨i, hi, rfl, hon, hfirst⟩ | ⟨rfl, hno⟩)⟩; rotate_left; (exfalso; obtain ⟨k, _, hk1, hk2⟩ := hex; obtain ⟨j, hj, e⟩ := List.getElem_of_mem hk1; have h9 : onB t l (xs.getD j 0) = false := hno j hj; rw [show onB t l (xs.getD j 0) = true by rw [getD_lt _ _ _ hj, e]; exact hk2] at h9; cases h9))|(apply OKx_gl; refine OKx_ldI (q + 5) rfl hrow (by omega) ?_)|(apply OKx_gb; refine OKx_appI 1 0 rfl rfl rfl rfl (by omega) (by omega) ?_; intro g2 c2)|(refine OK_rid 7 ?_; refine OK_mix [0, 1] [2, 3, 4, 5] [] [6, 7, 8] [] (id := 7) (by kernel_rfl) (by kernel_rfl) rfl (Ent.nil) (by ((try simp only [pickO, nthO, List.cons_append, List.nil_append]) <;> exact rfl)) (by ((try simp only [pickO, nthO, List.cons_append, List.nil_append]) <;> exact rfl)) (by ((try simp only [pickO]) <;> exact rfl)) (by ((try simp only [pickO, nthO, List.cons_append, List.nil_append]) <;> exact rfl)) ?_)|(apply OKx_nilK)|(apply OK_block)|(apply blockQ_n)|(apply blockQ_s)|(apply thenQ_e)|(apply blockQ_e;exact rfl)|(apply thenQ_r)|(apply blockQ_r)|(apply OK_condT;exact rfl)|(apply OK_condF;exact rfl)|(apply OK_skip)|(apply OK_exit)|(apply OK_ret)|(apply OKx_move;(conv=>lhs;whnf)<;>exact rfl)|(apply OKx_assign;(conv=>lhs;whnf)<;>exact rfl)|(apply OKx_ldB;exact rfl;(first | exact at0|exact at1|exact at2|exact at3|exact at4|exact at5|exact at6|exact at7);exact rfl)|(apply OKx_ldR;(conv=>lhs;whnf)<;>exact rfl;(with_reducible assumption))|(apply OKx_ldI;exact rfl;(first | exact at0|exact at1|exact at2|exact at3|exact at4|exact at5|exact at6|exact at7);omega)|(apply OKx_len;exact rfl)|(apply OKx_lenR;(conv=>lhs;whnf)<;>exact rfl;(with_reducible assumption))|(apply OKx_lenR2;(conv=>lhs;whnf)<;>exact rfl;(with_reducible assumption))|(apply OKx_lenO;(conv=>lhs;whnf)<;>exact rfl;(first | exact at0|exact at1|exact at2|exact at3|exact at4|exact at5|exact at6|exact at7))|(apply OKx_gtr;exact rfl;exact rfl;all_goals (intro _; try (exfalso;omega)))|(apply OKx_geq;exact rfl;exact rfl;all_goals (intro _; try (exfalso;omega)))|(apply OKx_neq;exact rfl;exact rfl;all_goals (intro _; try (exfalso;omega)))|(apply OKx_idxO;exact rfl;exact rfl;omega)|(apply OKx_idxR;(conv=>lhs;whnf)<;>exact rfl;(with_reducible assumption);exact rfl;omega;intro _ _)|(apply OKx_idxOz;exact rfl;exact rfl;omega;omega)|(apply OKx_idxRz;(conv=>lhs;whnf)<;>exact rfl;(with_reducible assumption);exact rfl;omega;omega;intro _ _)|(apply OKx_fldO;exact rfl;exact rfl)|(apply OKx_fldR;(conv=>lhs;whnf)<;>exact rfl;(with_reducible assumption); decide;intro _ _)|(apply OKx_dec;exact rfl;exact rfl;omega;omega)|(apply OKx_subN;exact rfl;exact rfl;omega;omega)|(apply OKx_sub;exact rfl;exact rfl;omega;omega)|(apply OKx_pickT;exact rfl;(conv=>lhs;whnf)<;>exact rfl)|(apply OKx_pickF;exact rfl;(conv=>lhs;whnf)<;>exact rfl)|(apply OKx_guardT;exact rfl;exact rfl)|(apply OKx_guardF;exact rfl;exact rfl)|(apply OKx_guardU;exact rfl;exact rfl)|(apply OKx_notT;exact rfl)|(apply OKx_notF;exact rfl)|(apply OKx_boxA;exact rfl;intro _)|(apply OKx_alloc1;intro _)|(apply OKx_ldBA;exact rfl;(first | exact at0|exact at1|exact at2|exact at3|exact at4|exact at5|exact at6|exact at7);exact rfl)|(apply OKx_ldRA;(conv=>lhs;whnf)<;>exact rfl;(with_reducible assumption))|(apply OKx_stB;exact rfl;(conv=>lhs;whnf)<;>exact rfl;exact rfl;exact rfl;(first | exact at0|exact at1|exact at2|exact at3|exact at4|exact at5|exact at6|exact at7);exact rfl;exact rfl;exact rfl)|(apply OKx_ldBo;exact rfl;(first | exact at0|exact at1|exact at2|exact at3|exact at4|exact at5|exact at6|exact at7);omega)|(apply OKx_stBo;exact rfl;exact rfl;(first | exact at0|exact at1|exact at2|exact at3|exact at4|exact at5|exact at6|exact at7);omega;exact rfl)|(apply OKx_slit1;(conv=>lhs;whnf)<;>exact rfl;exact rfl;intro _)|(apply OKx_box1;(conv=>lhs;whnf)<;>exact rfl;exact rfl;intro _)|(apply OKx_func;exact rfl;exact rfl))
      obtain ⟨k, hkN, hxk, hkm⟩ := (hcm (xs.getD i 0)).1 (by rw [getD_lt _ _ _ hi]; exact List.getElem_mem hi)
      have hqk : q < k := by
        have := hok k (by omega) (q : Int) (by simpa [show k < par.length by omega] using hkm)
        omega
      have hon' : onB t l (xs.getD i 0) = true := hon
      have hnx := find_first (onB t l) xs i hi hon' hfirst
      rw [pthR, if_neg hqt, hxs, hnx] at hA
      rw [hxk] at hon'
      simp only [onB, Bool.and_eq_true, decide_eq_true_eq, Int.toNat_natCast] at hon'
      refine ⟨by (repeat' (first | refine agree_upd rfl ?_ | exact agree_over | exact agree_refl _ _ | refine agree_over2 rfl ?_)), t - k, _, by omega, Ent.cons (List.Sublist.refl _), ?_⟩
      refine ⟨k, f, A ++ [xs.getD i 0], g2, c2, by omega, by omega, by rw [List.length_append]; rfl, int_eq hxk, hon'.2, ?_, by rw [List.length_append]; simp;omega, by simp [irow]⟩
      rw [← hA, List.append_assoc, hxk]
      rfl
end Go.Proofs.YtpfemholpigdeaaDoor
