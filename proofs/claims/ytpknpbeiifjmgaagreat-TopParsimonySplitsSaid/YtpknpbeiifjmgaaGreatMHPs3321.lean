/-
  Part 21 of the proof: Bw33. No statement of the seat is proved here.
-/
import Derived.Test.YtpknpbeiifjmgaaGreatMHPs3320
namespace Go.Proofs.YtpknpbeiifjmgaaGreat
open Go.RowKit
set_option maxRecDepth 100000 in
set_option maxHeartbeats 4000000 in
theorem idxS_sat (v : Value) (xs : List ByteArray) (x : ByteArray) (w : World) (h : Strs w v xs) (hl : xs.length ≤ 1000000) : SatV Tryz.prog 52 [v, .string x] w (.int .i64 (Lib.idxOfS xs x)) :=
  Sat.lib ⟨_, _, Tryz.func52, by kernel_rfl, rfl⟩ fun w1 hb => by
    have h1 := (h.below hb).1
    obtain ⟨a, c, rfl, hc⟩ := h1.out
    rcases hc with h0 | ⟨b, off, rfl, hc⟩
    · obtain rfl : xs = [] := List.length_eq_zero_iff.1 h0
      refine (Tryz.slices_Index_string_empty a c x w1).mono ?_
      rintro e w' ⟨rfl, rfl⟩
      exact ⟨_, [], rfl, Hp.refl _, rfl, rfl⟩
    · have h2 := Tryz.slices_Index_string b off xs.length c xs x w1 (Nat.le_refl _) (by omega) (fun j hj => by have := hc j (by omega); exact this)
      refine h2.mono ?_
      rintro e w' ⟨rfl, rfl⟩
      rw [List.take_length]
      exact ⟨_, [], rfl, Hp.refl _, rfl, rfl⟩
theorem ints_cell {w : World} {g c : Nat} {xs : List Int} (h : Ints w (.slice (some ⟨g, 0, none⟩) xs.length c) xs) (j : Nat) (u : Value) (hu : (ints xs)[j]? = some u) : w.cell? ⟨g, 0 + j, none⟩ = some u := by
  have hj : j < xs.length := by
    have := (List.getElem?_eq_some_iff.1 hu).1
    simpa [ints] using this
  rw [ints_get xs j hj] at hu
  obtain ⟨a, c2, hv, hc⟩ := h.sl.out
  simp only [Value.slice.injEq] at hv
  obtain ⟨rfl, _, rfl⟩ := hv
  rcases hc with h0 | ⟨b, off, ha, hc⟩
  · omega
  · simp only [Option.some.injEq, Addr.mk.injEq] at ha
    obtain ⟨rfl, rfl, _⟩ := ha
    rw [← hu]
    exact hc j (by omega)
theorem mvIn {w0 : World} (r : Res) (Z J E B : List Res) : Ent w0 (r :: (Z ++ (J ++ (E ++ B)))) (Z ++ (J ++ ((r :: E) ++ B))) := Ent.perm (by
  have h1 : (r :: (Z ++ (J ++ (E ++ B)))).Perm (Z ++ r :: (J ++ (E ++ B))) := List.perm_middle.symm
  have h2 : (r :: (J ++ (E ++ B))).Perm (J ++ r :: (E ++ B)) := List.perm_middle.symm
  exact h1.trans (h2.append_left Z))
theorem mvOut {w0 : World} (r : Res) (Z J E B : List Res) : Ent w0 (Z ++ (J ++ ((r :: E) ++ B))) (r :: (Z ++ (J ++ (E ++ B)))) := Ent.perm (by
  have h1 : (r :: (Z ++ (J ++ (E ++ B)))).Perm (Z ++ r :: (J ++ (E ++ B))) := List.perm_middle.symm
  have h2 : (r :: (J ++ (E ++ B))).Perm (J ++ r :: (E ++ B)) := List.perm_middle.symm
  exact (h1.trans (h2.append_left Z)).symm)
theorem nodup_len (l : List Nat) (n : Nat) (h : l.Nodup) (hb : ∀ x ∈ l, x < n) : l.length ≤ n := by
  have h1 : (l.map (fun x : Nat => (x : Int))).Nodup := by
    rw [List.nodup_iff_pairwise_ne] at *
    rw [List.pairwise_map]
    exact h.imp (fun h e => h (by omega))
  have h4 : (srtL (l.map (fun x : Nat => (x : Int)))).Pairwise (· < ·) := asc_of_le _ (srtL_le _) ((srtL_perm _).nodup_iff.2 h1)
  have h5 := asc_len _ h4 n (fun x hx => by
    obtain ⟨p, hp, e⟩ := List.mem_map.1 ((srtL_mem _ _).1 hx)
    have := hb p hp
    omega)
  rwa [(srtL_perm _).length_eq, List.length_map] at h5
def capB (gt gw gn gy : Nat) : List Value := [.pointer (some ⟨gt, 0, none⟩), .pointer (some ⟨gw, 0, none⟩), .pointer (some ⟨gn, 0, none⟩), .pointer (some ⟨gy, 0, none⟩)]
def zB (gt gw gn gy y : Nat) (pv nv sv : Value) : List Res := [.box 45 gy [.func (.yield y) #[] #[]], .box 84 gw [.func (.func 51) #[] (capB gt gw gn gy).toArray], .box 25 gt [pv, nv], .box 23 gn [sv]]
def YdR (JP : List (Value × Nat) → List Res → Prop) (Z Br : List Res) (l : List (Value × Nat)) (q : Value × Nat) (u : Value) (L : List Res) : Prop := u = .bool true ∧ ∃ J', JP (l ++ [q]) J' ∧ L = (J' ++ Z) ++ Br
def WkR (t : Tre) (JP : List (Value × Nat) → List Res → Prop) (Z E Br : List Res) (v : Nat) (l : List (Value × Nat)) (u : Value) (L : List Res) : Prop :=
  ∃ x l2 J', u = .tuple #[x, .bool true] ∧ JP (l ++ l2) J' ∧ (v ≠ 0 → (∃ g c, x = .slice (some ⟨g, 0, none⟩) (belL t v).length c) ∧ (x, v) ∈ l2) ∧ (∀ q ∈ l2, 0 < q.2 ∧ q.2 < t.par.length ∧ sub33 t.par v q.2 = true) ∧ (l2.map (·.2)).Nodup ∧ (∀ i, 0 < i → i < t.par.length → sub33 t.par v i = true → ∃ q ∈ l2, q.2 = i) ∧ L = Z ++ (J' ++ (E ++ Br))
theorem wk_full {t : Tre} (hc : treC t = 0) (v : Nat) (l2 : List (Value × Nat)) (h : ∀ j, j < t.par.length → t.par.getD j 0 = (v : Int) → ∀ i, 0 < i → i < t.par.length → sub33 t.par j i = true → ∃ q ∈ l2, q.2 = i) (hv : v ≠ 0 → ∃ q ∈ l2, q.2 = v) :
    ∀ i, 0 < i → i < t.par.length → sub33 t.par v i = true → ∃ q ∈ l2, q.2 = i := by
  intro i hi hin hs
  have hup := (treC_par hc).2
  rcases Nat.lt_trichotomy i v with h1 | h1 | h1
  · rw [sub_less v i h1] at hs; cases hs
  · subst h1; exact hv (by omega)
  · obtain ⟨k, hk, _, hk2, hk3⟩ := (sub_child hup v i hin h1).1 hs
    exact h k hk hk2 i hi hin hk3
set_option maxRecDepth 100000 in
set_option maxHeartbeats 4000000 in
set_option maxRecDepth 100000 in
set_option maxHeartbeats 4000000 in
theorem walk_sat (gt gw gn gy y : Nat) (pv nv sv : Value) (t : Tre) (w0 : World) (Br : List Res) (JP : List (Value × Nat) → List Res → Prop) (hc : treC t = 0) (hP : Ints w0 pv t.par) (hN : Strs w0 nv t.names) (hS : Strs w0 sv (nmT t))
    (hrd : ∀ l J, JP l J → ∀ q ∈ l, ∀ w1, Hp w0.heap.size w0 w1 J → Ints w1 q.1 (belL t q.2))
    (hy : ∀ E v g c l J, 0 < v → v < t.par.length → l.length ≤ 5000 → JP l J → SatY Tryz.prog y [.slice (some ⟨g, 0, none⟩) (belL t v).length c] w0 ((.row 3 1 (.slice (some ⟨g, 0, none⟩) (belL t v).length c) (belL t v).length (ints (belL t v)) :: (J ++ (zB gt gw gn gy y pv nv sv ++ E))) ++ Br) (YdR JP (zB gt gw gn gy y pv nv sv ++ E) Br l (.slice (some ⟨g, 0, none⟩) (belL t v).length c, v))) :
    ∀ m v E l J, v + m = t.par.length → 0 < m → l.length ≤ 65 * v → JP l J → SatL Tryz.prog 51 (.int .i64 (v : Int) :: capB gt gw gn gy) w0 (zB gt gw gn gy y pv nv sv ++ (J ++ (E ++ Br))) (WkR t JP (zB gt gw gn gy y pv nv sv) E Br v l) := by
  intro m
  induction m using Nat.strongRecOn with
  | ind m ih =>
  intro v E l J hvm hm0 hl65 hJ
  obtain ⟨l0, l64, hln, _, _⟩ := treC_len hc
  have hup := treC_par hc
  have hpv := hP.sl
  have hnv := hN.sl
  have hsv := hS.sl
  have hlf := lvs_few t
  have hbl : ∀ k, k ≤ t.par.length → (gatL t v k).length ≤ 64 := fun k hk => by have := gatL_len hc v k hk;omega
  generalize hR : WkR t JP (zB gt gw gn gy y pv nv sv) E Br v l = R
  simp only [zB, capB, List.cons_append, List.nil_append]
  refine SatL.of 57 [6, 7] Tryz.func51 (by kernel_rfl) (by kernel_rfl) rfl rfl rfl rfl ?_
  repeat' (first|(apply OK_seq)|(apply thenQ_n)|(apply OK_region)|(refine OK_rid 12 ?_; refine OK_mix [] [0, 1, 2, 3, 4, 5] [] [6, 7, 8] [] (id := 12) (by kernel_rfl) (by kernel_rfl) rfl (Ent.nil) (by ((try simp only [pickO]) <;> exact rfl)) (by ((try simp only [pickO, nthO, List.cons_append, List.nil_append]) <;> exact rfl)) (by ((try simp only [pickO]) <;> exact rfl)) (by ((try simp only [pickO, nthO, List.cons_append, List.nil_append]) <;> exact rfl)) ?_)|(apply OKx_nilK)|(apply OK_block)|(apply blockQ_n)|(apply blockQ_s)|(apply thenQ_e)|(apply blockQ_e;exact rfl)|(apply thenQ_r)|(apply blockQ_r)|(apply OK_condT;exact rfl)|(apply OK_condF;exact rfl)|(apply OK_skip)|(apply OK_exit)|(apply OK_ret)|(apply OKx_move;(conv=>lhs;whnf)<;>exact rfl)|(apply OKx_assign;(conv=>lhs;whnf)<;>exact rfl)|(apply OKx_ldB;exact rfl;(first | exact at0|exact at1|exact at2|exact at3|exact at4|exact at5|exact at6|exact at7);exact rfl)|(apply OKx_ldR;(conv=>lhs;whnf)<;>exact rfl;(with_reducible assumption))|(apply OKx_ldI;exact rfl;(first | exact at0|exact at1|exact at2|exact at3|exact at4|exact at5|exact at6|exact at7);omega)|(apply OKx_len;exact rfl)|(apply OKx_lenR;(conv=>lhs;whnf)<;>exact rfl;(with_reducible assumption))|(apply OKx_lenR2;(conv=>lhs;whnf)<;>exact rfl;(with_reducible assumption))|(apply OKx_lenO;(conv=>lhs;whnf)<;>exact rfl;(first | exact at0|exact at1|exact at2|exact at3|exact at4|exact at5|exact at6|exact at7))|(apply OKx_lss;exact rfl;exact rfl;all_goals (intro _; try (exfalso;omega)))|(apply OKx_eql;exact rfl;exact rfl;all_goals (intro _; try (exfalso;omega)))|(apply OKx_neq;exact rfl;exact rfl;all_goals (intro _; try (exfalso;omega)))|(apply OKx_idxO;exact rfl;exact rfl;omega)|(apply OKx_idxR;(conv=>lhs;whnf)<;>exact rfl;(with_reducible assumption);exact rfl;omega;intro _ _)|(apply OKx_idxOz;exact rfl;exact rfl;omega;omega)|(apply OKx_idxRz;(conv=>lhs;whnf)<;>exact rfl;(with_reducible assumption);exact rfl;omega;omega;intro _ _)|(apply OKx_fldO;exact rfl;exact rfl)|(apply OKx_fldR;(conv=>lhs;whnf)<;>exact rfl;(with_reducible assumption); decide;intro _ _)|(apply OKx_inc;exact rfl;exact rfl;omega)|(apply OKx_addN;exact rfl;exact rfl;omega)|(apply OKx_add;exact rfl;exact rfl;omega;omega)|(apply OKx_pickT;exact rfl;(conv=>lhs;whnf)<;>exact rfl)|(apply OKx_pickF;exact rfl;(conv=>lhs;whnf)<;>exact rfl)|(apply OKx_guardT;exact rfl;exact rfl)|(apply OKx_guardF;exact rfl;exact rfl)|(apply OKx_guardU;exact rfl;exact rfl)|(apply OKx_notT;exact rfl)|(apply OKx_notF;exact rfl)|(apply OKx_extract;exact rfl;(conv=>lhs;whnf)<;>exact rfl)|(apply OKx_slit1;(conv=>lhs;whnf)<;>exact rfl;exact rfl;intro _))
  refine OK_loop2 8 16 [6, 7, 8, 9, 10, 11, 12, 16, 17, 18, 19, 20, 21, 22, 23, 24, 25, 26, 27, 28, 29, 30, 31, 32, 33, 34, 35] (fun m2 u x L => ∃ (k : Nat) (a : Option Addr) (c : Nat) (l' : List (Value × Nat)) (J' : List Res), k + m2 = t.par.length ∧ u = .slice a (gatL t v k).length c ∧ (0 < (gatL t v k).length → ∃ g, a = some ⟨g, 0, none⟩) ∧ x = .int .i64 (k : Int) ∧ JP (l ++ l') J' ∧
    (∀ q ∈ l', 0 < q.2 ∧ q.2 < t.par.length ∧ ∃ j, j < k ∧ v < j ∧ t.par.getD j 0 = (v : Int) ∧ sub33 t.par j q.2 = true) ∧ (l'.map (·.2)).Nodup ∧ (∀ j, j < k → t.par.getD j 0 = (v : Int) → ∀ i, 0 < i → i < t.par.length → sub33 t.par j i = true → ∃ q ∈ l', q.2 = i) ∧
    L = .row 3 1 (.slice a (gatL t v k).length c) (gatL t v k).length (ints (gatL t v k)) :: (zB gt gw gn gy y pv nv sv ++ (J' ++ (E ++ Br)))) t.par.length _
    (Ent.mk fun w1 hp => hp.nil 3 1) ⟨0, none, 0, [], J, by omega, rfl, fun h => absurd h (by simp [gatL]), rfl, by rw [List.append_nil]; exact hJ, fun q hq => absurd hq List.not_mem_nil, List.nodup_nil, fun j hj => absurd hj (by omega), rfl⟩ ?_
  rintro m2 u x L G ⟨k, a, c, l', J', hk2, rfl, ha, rfl, hJ', hq1, hqn, hq2, rfl⟩
  have hl' : l'.length ≤ 64 := by
    have := nodup_len (l'.map (·.2)) 64 hqn (fun x hx => by
      obtain ⟨q, hq, rfl⟩ := List.mem_map.1 hx
      have := (hq1 q hq).2.1
      omega)
    rwa [List.length_map] at this
  by_cases hk : k < t.par.length
  · have hgs : gatL t v (k + 1) = gatL t v k ++ if t.par.getD k 0 = (v : Int) then belL t k else [] := rfl
    by_cases hkv : t.par.getD k 0 = (v : Int)
    · rw [if_pos hkv] at hgs
      have hkp : v < k := by
        rcases Nat.eq_zero_or_pos k with rfl | h
        · rw [hup.1] at hkv;omega
        · have := (hup.2 k h hk).2;omega
      have hbn := belL_ne hc (t.par.length - k) k (by omega) (by omega)
      have hbn0 : 0 < (belL t k).length := List.length_pos_iff.2 hbn
      have hb1 := hbl (k + 1) (by omega)
      rw [hgs, List.length_append] at hb1
      have hcl := ih (t.par.length - k) (by omega) k (.row 3 1 (.slice a (gatL t v k).length c) (gatL t v k).length (ints (gatL t v k)) :: E) (l ++ l') J' (by omega) (by omega) (by rw [List.length_append];omega) hJ'
      simp only [zB, capB, List.cons_append, List.nil_append] at hcl ⊢
      repeat' (first|(apply OK_seq)|(apply thenQ_n)|(apply OK_region)|(apply OKx_gc 51;exact rfl; refine OKx_callL (f := 51) rfl rfl (hcl.pre (mvIn _ (zB gt gw gn gy y pv nv sv) J' E Br)) ?_; rintro _ _ ⟨x, l2, J2, rfl, hJ2, hx, hq3, hqn3, hq4, rfl⟩; obtain ⟨⟨g9, c9, rfl⟩, hmem⟩ := hx (by omega); refine OKx_ent (mvOut _ (zB gt gw gn gy y pv nv sv) J2 E Br) ?_; simp only [zB, capB, List.cons_append, List.nil_append])|(apply OKx_gb; refine OKx_append 0 (M := (belL t k).length) (ys := ints (belL t k)) rfl rfl rfl (by simp [ints]) (fun w1 hp => ints_cell (hrd _ _ hJ2 _ (List.mem_append_right _ hmem) w1 (hp.sub ((List.sublist_append_left J2 _).trans ((((((List.Sublist.refl _).cons _).cons _).cons _).cons _).cons _))))) (fun u hu => by simp only [ints, List.mem_map] at hu; obtain ⟨z, _, rfl⟩ := hu; rfl) (by omega) (by omega) hbn0 ?_; intro gA cA)|(refine OK_rid 12 ?_; refine OK_mix [] [0, 1, 2, 3, 4, 5] [] [6, 7, 8] [] (id := 12) (by kernel_rfl) (by kernel_rfl) rfl (Ent.nil) (by ((try simp only [pickO]) <;> exact rfl)) (by ((try simp only [pickO, nthO, List.cons_append, List.nil_append]) <;> exact rfl)) (by ((try simp only [pickO]) <;> exact rfl)) (by ((try simp only [pickO, nthO, List.cons_append, List.nil_append]) <;> exact rfl)) ?_)|(apply OKx_nilK)|(apply OK_block)|(apply blockQ_n)|(apply blockQ_s)|(apply thenQ_e)|(apply blockQ_e;exact rfl)|(apply thenQ_r)|(apply blockQ_r)|(apply OK_condT;exact rfl)|(apply OK_condF;exact rfl)|(apply OK_skip)|(apply OK_exit)|(apply OK_ret)|(apply OKx_move;(conv=>lhs;whnf)<;>exact rfl)|(apply OKx_assign;(conv=>lhs;whnf)<;>exact rfl)|(apply OKx_ldB;exact rfl;(first | exact at0|exact at1|exact at2|exact at3|exact at4|exact at5|exact at6|exact at7);exact rfl)|(apply OKx_ldR;(conv=>lhs;whnf)<;>exact rfl;(with_reducible assumption))|(apply OKx_ldI;exact rfl;(first | exact at0|exact at1|exact at2|exact at3|exact at4|exact at5|exact at6|exact at7);omega)|(apply OKx_len;exact rfl)|(apply OKx_lenR;(conv=>lhs;whnf)<;>exact rfl;(with_reducible assumption))|(apply OKx_lenR2;(conv=>lhs;whnf)<;>exact rfl;(with_reducible assumption))|(apply OKx_lenO;(conv=>lhs;whnf)<;>exact rfl;(first | exact at0|exact at1|exact at2|exact at3|exact at4|exact at5|exact at6|exact at7))|(apply OKx_lss;exact rfl;exact rfl;all_goals (intro _; try (exfalso;omega)))|(apply OKx_eql;exact rfl;exact rfl;all_goals (intro _; try (exfalso;omega)))|(apply OKx_neq;exact rfl;exact rfl;all_goals (intro _; try (exfalso;omega)))|(apply OKx_idxO;exact rfl;exact rfl;omega)|(apply OKx_idxR;(conv=>lhs;whnf)<;>exact rfl;(with_reducible assumption);exact rfl;omega;intro _ _)|(apply OKx_idxOz;exact rfl;exact rfl;omega;omega)|(apply OKx_idxRz;(conv=>lhs;whnf)<;>exact rfl;(with_reducible assumption);exact rfl;omega;omega;intro _ _)|(apply OKx_fldO;exact rfl;exact rfl)|(apply OKx_fldR;(conv=>lhs;whnf)<;>exact rfl;(with_reducible assumption); decide;intro _ _)|(apply OKx_inc;exact rfl;exact rfl;omega)|(apply OKx_addN;exact rfl;exact rfl;omega)|(apply OKx_add;exact rfl;exact rfl;omega;omega)|(apply OKx_pickT;exact rfl;(conv=>lhs;whnf)<;>exact rfl)|(apply OKx_pickF;exact rfl;(conv=>lhs;whnf)<;>exact rfl)|(apply OKx_guardT;exact rfl;exact rfl)|(apply OKx_guardF;exact rfl;exact rfl)|(apply OKx_guardU;exact rfl;exact rfl)|(apply OKx_notT;exact rfl)|(apply OKx_notF;exact rfl)|(apply OKx_extract;exact rfl;(conv=>lhs;whnf)<;>exact rfl)|(apply OKx_slit1;(conv=>lhs;whnf)<;>exact rfl;exact rfl;intro _))
      refine ⟨by (repeat' (first | refine agree_upd rfl ?_ | exact agree_over | exact agree_refl _ _ | refine agree_over2 rfl ?_)), m2 - 1, _, by omega, Ent.refl _ _, ?_⟩
      have e9 : ints (gatL t v k) ++ ints (belL t k) = ints (gatL t v k ++ belL t k) := by simp [ints]
      refine ⟨k + 1, some ⟨gA, 0, none⟩, cA, l' ++ l2, J2, by omega, by rw [hgs, List.length_append]; rfl, fun _ => ⟨gA, rfl⟩, rfl, by rw [← List.append_assoc]; exact hJ2, ?_, ?_, ?_, ?_⟩
      · intro q hq
        rcases List.mem_append.1 hq with h | h
        · obtain ⟨h1, h2, j, h3, h4⟩ := hq1 q h
          exact ⟨h1, h2, j, by omega, h4⟩
        · obtain ⟨h1, h2, h3⟩ := hq3 q h
          exact ⟨h1, h2, k, by omega, hkp, hkv, h3⟩
      · rw [List.map_append, List.nodup_append]
        refine ⟨hqn, hqn3, fun a h1 b h2 e => ?_⟩
        subst e
        obtain ⟨q, h3, rfl⟩ := List.mem_map.1 h1
        obtain ⟨q', h4, h5⟩ := List.mem_map.1 h2
        obtain ⟨h6, h7, j, h8, h9, h10, h11⟩ := hq1 q h3
        obtain ⟨_, _, h12⟩ := hq3 q' h4
        rw [h5] at h12
        exact sub_apart hup.2 v j k h10 hkv h9 h8 q.2 h7 h11 h12
      · intro j hj hjv i hi hin hs
        by_cases hjk : j = k
        · subst hjk
          obtain ⟨q, h1, h2⟩ := hq4 i hi hin hs
          exact ⟨q, List.mem_append_right _ h1, h2⟩
        · obtain ⟨q, h1, h2⟩ := hq2 j (by omega) hjv i hi hin hs
          exact ⟨q, List.mem_append_left _ h1, h2⟩
      · rw [hgs, List.length_append, ← e9]
        rfl
    · rw [if_neg hkv, List.append_nil] at hgs
      simp only [zB, capB, List.cons_append, List.nil_append]
      repeat' (first|(apply OK_seq)|(apply thenQ_n)|(apply OK_region)|(refine OK_rid 12 ?_; refine OK_mix [] [0, 1, 2, 3, 4, 5] [] [6, 7, 8] [] (id := 12) (by kernel_rfl) (by kernel_rfl) rfl (Ent.nil) (by ((try simp only [pickO]) <;> exact rfl)) (by ((try simp only [pickO, nthO, List.cons_append, List.nil_append]) <;> exact rfl)) (by ((try simp only [pickO]) <;> exact rfl)) (by ((try simp only [pickO, nthO, List.cons_append, List.nil_append]) <;> exact rfl)) ?_)|(apply OKx_nilK)|(apply OK_block)|(apply blockQ_n)|(apply blockQ_s)|(apply thenQ_e)|(apply blockQ_e;exact rfl)|(apply thenQ_r)|(apply blockQ_r)|(apply OK_condT;exact rfl)|(apply OK_condF;exact rfl)|(apply OK_skip)|(apply OK_exit)|(apply OK_ret)|(apply OKx_move;(conv=>lhs;whnf)<;>exact rfl)|(apply OKx_assign;(conv=>lhs;whnf)<;>exact rfl)|(apply OKx_ldB;exact rfl;(first | exact at0|exact at1|exact at2|exact at3|exact at4|exact at5|exact at6|exact at7);exact rfl)|(apply OKx_ldR;(conv=>lhs;whnf)<;>exact rfl;(with_reducible assumption))|(apply OKx_ldI;exact rfl;(first | exact at0|exact at1|exact at2|exact at3|exact at4|exact at5|exact at6|exact at7);omega)|(apply OKx_len;exact rfl)|(apply OKx_lenR;(conv=>lhs;whnf)<;>exact rfl;(with_reducible assumption))|(apply OKx_lenR2;(conv=>lhs;whnf)<;>exact rfl;(with_reducible assumption))|(apply OKx_lenO;(conv=>lhs;whnf)<;>exact rfl;(first | exact at0|exact at1|exact at2|exact at3|exact at4|exact at5|exact at6|exact at7))|(apply OKx_lss;exact rfl;exact rfl;all_goals (intro _; try (exfalso;omega)))|(apply OKx_eql;exact rfl;exact rfl;all_goals (intro _; try (exfalso;omega)))|(apply OKx_neq;exact rfl;exact rfl;all_goals (intro _; try (exfalso;omega)))|(apply OKx_idxO;exact rfl;exact rfl;omega)|(apply OKx_idxR;(conv=>lhs;whnf)<;>exact rfl;(with_reducible assumption);exact rfl;omega;intro _ _)|(apply OKx_idxOz;exact rfl;exact rfl;omega;omega)|(apply OKx_idxRz;(conv=>lhs;whnf)<;>exact rfl;(with_reducible assumption);exact rfl;omega;omega;intro _ _)|(apply OKx_fldO;exact rfl;exact rfl)|(apply OKx_fldR;(conv=>lhs;whnf)<;>exact rfl;(with_reducible assumption); decide;intro _ _)|(apply OKx_inc;exact rfl;exact rfl;omega)|(apply OKx_addN;exact rfl;exact rfl;omega)|(apply OKx_add;exact rfl;exact rfl;omega;omega)|(apply OKx_pickT;exact rfl;(conv=>lhs;whnf)<;>exact rfl)|(apply OKx_pickF;exact rfl;(conv=>lhs;whnf)<;>exact rfl)|(apply OKx_guardT;exact rfl;exact rfl)|(apply OKx_guardF;exact rfl;exact rfl)|(apply OKx_guardU;exact rfl;exact rfl)|(apply OKx_notT;exact rfl)|(apply OKx_notF;exact rfl)|(apply OKx_extract;exact rfl;(conv=>lhs;whnf)<;>exact rfl)|(apply OKx_slit1;(conv=>lhs;whnf)<;>exact rfl;exact rfl;intro _))
      refine ⟨by (repeat' (first | refine agree_upd rfl ?_ | exact agree_over | exact agree_refl _ _ | refine agree_over2 rfl ?_)), m2 - 1, _, by omega, Ent.refl _ _, ?_⟩
      refine ⟨k + 1, a, c, l', J', by omega, by rw [hgs]; rfl, by rw [hgs]; exact ha, rfl, hJ', fun q hq => ?_, hqn, fun j hj hjv => ?_, by rw [hgs]⟩
      · obtain ⟨h1, h2, j, h3, h4⟩ := hq1 q hq
        exact ⟨h1, h2, j, by omega, h4⟩
      by_cases hjk : j = k
      · subst hjk; exact absurd hjv hkv
      · exact hq2 j (by omega) hjv
  obtain rfl : k = t.par.length := by omega
  have hb1 := hbl t.par.length (Nat.le_refl _)
  have full : ∀ (x : Value) (l2 : List (Value × Nat)), (∀ q ∈ l', q ∈ l2) → (v ≠ 0 → (x, v) ∈ l2) → ∀ i, 0 < i → i < t.par.length → sub33 t.par v i = true → ∃ q ∈ l2, q.2 = i := fun x l2 h1 h2 =>
    wk_full hc v l2 (fun j hj hjv i hi hin hs => by
      obtain ⟨q, h3, h4⟩ := hq2 j hj hjv i hi hin hs
      exact ⟨q, h1 q h3, h4⟩) (fun h => ⟨_, h2 h, rfl⟩)
  have hq5 : ∀ q ∈ l', 0 < q.2 ∧ q.2 < t.par.length ∧ sub33 t.par v q.2 = true := fun q hq => by
    obtain ⟨h1, h2, j, h3, h4, h5, h6⟩ := hq1 q hq
    refine ⟨h1, h2, ?_⟩
    have hjq : j ≤ q.2 := Classical.byContradiction fun h => by rw [sub_less j q.2 (by omega)] at h6; cases h6
    exact (sub_child hup.2 v q.2 h2 (by omega)).2 ⟨j, h3, h4, h5, h6⟩
  have fin0 : v = 0 → ∀ x, WkR t JP (zB gt gw gn gy y pv nv sv) E Br v l (.tuple #[x, .bool true]) (zB gt gw gn gy y pv nv sv ++ (J' ++ (E ++ Br))) := fun h x =>
    ⟨x, l', J', rfl, hJ', fun h2 => absurd h h2, hq5, hqn, full x l' (fun q h => h) (fun h2 => absurd h h2), rfl⟩
  have fin1 : v ≠ 0 → ∀ (g c : Nat) J2, JP ((l ++ l') ++ [(.slice (some ⟨g, 0, none⟩) (belL t v).length c, v)]) J2 → WkR t JP (zB gt gw gn gy y pv nv sv) E Br v l (.tuple #[.slice (some ⟨g, 0, none⟩) (belL t v).length c, .bool true]) (zB gt gw gn gy y pv nv sv ++ (J2 ++ (E ++ Br))) := fun h g c J2 h2 => by
    refine ⟨_, l' ++ [(.slice (some ⟨g, 0, none⟩) (belL t v).length c, v)], J2, rfl, by rw [← List.append_assoc]; exact h2, fun _ => ⟨⟨g, c, rfl⟩, List.mem_append_right _ (List.mem_singleton.2 rfl)⟩, ?_, ?_, full (.slice (some ⟨g, 0, none⟩) (belL t v).length c) _ (fun q hq => List.mem_append_left _ hq) (fun _ => List.mem_append_right _ (List.mem_singleton.2 rfl)), rfl⟩
    · intro q hq
      rcases List.mem_append.1 hq with h3 | h3
      · exact hq5 q h3
      · rw [List.mem_singleton] at h3
        subst h3
        exact ⟨by show 0 < v;omega, by show v < _;omega, sub_self v⟩
    · rw [List.map_append, List.nodup_append]
      refine ⟨hqn, by simp, fun a h1 b h2 e => ?_⟩
      subst e
      obtain ⟨q, h3, h5⟩ := List.mem_map.1 h1
      rw [List.map_singleton, List.mem_singleton] at h2
      obtain ⟨_, _, j, _, h4, _, h6⟩ := hq1 q h3
      rw [h5, h2, sub_less j v h4] at h6
      cases h6
  have swp : ∀ (r : Res), Ent w0 (r :: (zB gt gw gn gy y pv nv sv ++ (J' ++ (E ++ Br)))) ((r :: (J' ++ (zB gt gw gn gy y pv nv sv ++ E))) ++ Br) := fun r => Ent.perm (by
    rw [List.cons_append]
    refine List.Perm.cons r ?_
    have h1 : (zB gt gw gn gy y pv nv sv ++ (J' ++ (E ++ Br))).Perm (J' ++ (zB gt gw gn gy y pv nv sv ++ (E ++ Br))) := by
      rw [← List.append_assoc, ← List.append_assoc J']
      exact List.perm_append_comm.append_right _
    refine h1.trans ?_
    rw [List.append_assoc, List.append_assoc])
  have swq : ∀ J2, Ent w0 ((J2 ++ (zB gt gw gn gy y pv nv sv ++ E)) ++ Br) (zB gt gw gn gy y pv nv sv ++ (J2 ++ (E ++ Br))) := fun J2 => Ent.perm (by
    have h1 : (zB gt gw gn gy y pv nv sv ++ (J2 ++ (E ++ Br))).Perm (J2 ++ (zB gt gw gn gy y pv nv sv ++ (E ++ Br))) := by
      rw [← List.append_assoc, ← List.append_assoc J2]
      exact List.perm_append_comm.append_right _
    rw [List.append_assoc, List.append_assoc]
    exact h1.symm)
  cases hi : inn t v with
  | true =>
    have hgb := gat_bel hc v (by omega) hi
    have hgn := gatL_ne hc v (by omega) hi
    have hg0 : 0 < (gatL t v t.par.length).length := List.length_pos_iff.2 hgn
    have hgl : (gatL t v t.par.length).length = (belL t v).length := by rw [← hgb]; exact (srtL_perm _).length_eq.symm
    obtain ⟨ga, rfl⟩ := ha hg0
    by_cases hv0 : v = 0
    · simp only [zB, capB, List.cons_append, List.nil_append]
      repeat' (first|(apply OK_seq)|(apply thenQ_n)|(apply OK_region)|(apply OKx_gc 22;exact rfl; refine OKx_callL (f := 22) rfl rfl (sort_int_sat ga c _ (gatL t v t.par.length) _ _ 0 rfl rfl (by omega)) ?_; rintro _ _ ⟨rfl, rfl⟩; rw [List.set_cons_zero])|(refine OK_rid 12 ?_; refine OK_mix [] [0, 1, 2, 3, 4, 5] [] [6, 7, 8] [] (id := 12) (by kernel_rfl) (by kernel_rfl) rfl (Ent.nil) (by ((try simp only [pickO]) <;> exact rfl)) (by ((try simp only [pickO, nthO, List.cons_append, List.nil_append]) <;> exact rfl)) (by ((try simp only [pickO]) <;> exact rfl)) (by ((try simp only [pickO, nthO, List.cons_append, List.nil_append]) <;> exact rfl)) ?_)|(apply OKx_nilK)|(apply OK_block)|(apply blockQ_n)|(apply blockQ_s)|(apply thenQ_e)|(apply blockQ_e;exact rfl)|(apply thenQ_r)|(apply blockQ_r)|(apply OK_condT;exact rfl)|(apply OK_condF;exact rfl)|(apply OK_skip)|(apply OK_exit)|(apply OK_ret)|(apply OKx_move;(conv=>lhs;whnf)<;>exact rfl)|(apply OKx_assign;(conv=>lhs;whnf)<;>exact rfl)|(apply OKx_ldB;exact rfl;(first | exact at0|exact at1|exact at2|exact at3|exact at4|exact at5|exact at6|exact at7);exact rfl)|(apply OKx_ldR;(conv=>lhs;whnf)<;>exact rfl;(with_reducible assumption))|(apply OKx_ldI;exact rfl;(first | exact at0|exact at1|exact at2|exact at3|exact at4|exact at5|exact at6|exact at7);omega)|(apply OKx_len;exact rfl)|(apply OKx_lenR;(conv=>lhs;whnf)<;>exact rfl;(with_reducible assumption))|(apply OKx_lenR2;(conv=>lhs;whnf)<;>exact rfl;(with_reducible assumption))|(apply OKx_lenO;(conv=>lhs;whnf)<;>exact rfl;(first | exact at0|exact at1|exact at2|exact at3|exact at4|exact at5|exact at6|exact at7))|(apply OKx_lss;exact rfl;exact rfl;all_goals (intro _; try (exfalso;omega)))|(apply OKx_eql;exact rfl;exact rfl;all_goals (intro _; try (exfalso;omega)))|(apply OKx_neq;exact rfl;exact rfl;all_goals (intro _; try (exfalso;omega)))|(apply OKx_idxO;exact rfl;exact rfl;omega)|(apply OKx_idxR;(conv=>lhs;whnf)<;>exact rfl;(with_reducible assumption);exact rfl;omega;intro _ _)|(apply OKx_idxOz;exact rfl;exact rfl;omega;omega)|(apply OKx_idxRz;(conv=>lhs;whnf)<;>exact rfl;(with_reducible assumption);exact rfl;omega;omega;intro _ _)|(apply OKx_fldO;exact rfl;exact rfl)|(apply OKx_fldR;(conv=>lhs;whnf)<;>exact rfl;(with_reducible assumption); decide;intro _ _)|(apply OKx_inc;exact rfl;exact rfl;omega)|(apply OKx_addN;exact rfl;exact rfl;omega)|(apply OKx_add;exact rfl;exact rfl;omega;omega)|(apply OKx_pickT;exact rfl;(conv=>lhs;whnf)<;>exact rfl)|(apply OKx_pickF;exact rfl;(conv=>lhs;whnf)<;>exact rfl)|(apply OKx_guardT;exact rfl;exact rfl)|(apply OKx_guardF;exact rfl;exact rfl)|(apply OKx_guardU;exact rfl;exact rfl)|(apply OKx_notT;exact rfl)|(apply OKx_notF;exact rfl)|(apply OKx_extract;exact rfl;(conv=>lhs;whnf)<;>exact rfl)|(apply OKx_slit1;(conv=>lhs;whnf)<;>exact rfl;exact rfl;intro _))
      refine bodyQ_r2 (by ((conv=>lhs;whnf)<;>exact rfl)) (by ((conv=>lhs;whnf)<;>exact rfl)) ?_
      subst hR
      exact ⟨_, Ent.sub (List.sublist_cons_self _ _), fin0 hv0 _⟩
    · have hyy := fun cc => hy E v ga cc (l ++ l') J' (by omega) (by omega) (by rw [List.length_append];omega) hJ'
      simp only [zB, capB, List.cons_append, List.nil_append]
      repeat' (first|(refine OK_regionYg (id := 14) [_, _, _, _, _, _] [_, _, _] rfl rfl rfl ?_)|(apply OK_seq)|(apply thenQ_n)|(apply OK_region)|(apply OKx_gc 22;exact rfl; refine OKx_callL (f := 22) rfl rfl (sort_int_sat ga c _ (gatL t v t.par.length) _ _ 0 rfl rfl (by omega)) ?_; rintro _ _ ⟨rfl, rfl⟩; rw [List.set_cons_zero, hgb, hgl])|(refine OK_rid 12 ?_; refine OK_mix [] [0, 1, 2, 3, 4, 5] [] [6, 7, 8] [] (id := 12) (by kernel_rfl) (by kernel_rfl) rfl (Ent.nil) (by ((try simp only [pickO]) <;> exact rfl)) (by ((try simp only [pickO, nthO, List.cons_append, List.nil_append]) <;> exact rfl)) (by ((try simp only [pickO]) <;> exact rfl)) (by ((try simp only [pickO, nthO, List.cons_append, List.nil_append]) <;> exact rfl)) ?_)|(apply OKx_nilK)|(apply OK_block)|(apply blockQ_n)|(apply blockQ_s)|(apply thenQ_e)|(apply blockQ_e;exact rfl)|(apply thenQ_r)|(apply blockQ_r)|(apply OK_condT;exact rfl)|(apply OK_condF;exact rfl)|(apply OK_skip)|(apply OK_exit)|(apply OK_ret)|(apply OKx_move;(conv=>lhs;whnf)<;>exact rfl)|(apply OKx_assign;(conv=>lhs;whnf)<;>exact rfl)|(apply OKx_ldB;exact rfl;(first | exact at0|exact at1|exact at2|exact at3|exact at4|exact at5|exact at6|exact at7);exact rfl)|(apply OKx_ldR;(conv=>lhs;whnf)<;>exact rfl;(with_reducible assumption))|(apply OKx_ldI;exact rfl;(first | exact at0|exact at1|exact at2|exact at3|exact at4|exact at5|exact at6|exact at7);omega)|(apply OKx_len;exact rfl)|(apply OKx_lenR;(conv=>lhs;whnf)<;>exact rfl;(with_reducible assumption))|(apply OKx_lenR2;(conv=>lhs;whnf)<;>exact rfl;(with_reducible assumption))|(apply OKx_lenO;(conv=>lhs;whnf)<;>exact rfl;(first | exact at0|exact at1|exact at2|exact at3|exact at4|exact at5|exact at6|exact at7))|(apply OKx_lss;exact rfl;exact rfl;all_goals (intro _; try (exfalso;omega)))|(apply OKx_eql;exact rfl;exact rfl;all_goals (intro _; try (exfalso;omega)))|(apply OKx_neq;exact rfl;exact rfl;all_goals (intro _; try (exfalso;omega)))|(apply OKx_idxO;exact rfl;exact rfl;omega)|(apply OKx_idxR;(conv=>lhs;whnf)<;>exact rfl;(with_reducible assumption);exact rfl;omega;intro _ _)|(apply OKx_idxOz;exact rfl;exact rfl;omega;omega)|(apply OKx_idxRz;(conv=>lhs;whnf)<;>exact rfl;(with_reducible assumption);exact rfl;omega;omega;intro _ _)|(apply OKx_fldO;exact rfl;exact rfl)|(apply OKx_fldR;(conv=>lhs;whnf)<;>exact rfl;(with_reducible assumption); decide;intro _ _)|(apply OKx_inc;exact rfl;exact rfl;omega)|(apply OKx_addN;exact rfl;exact rfl;omega)|(apply OKx_add;exact rfl;exact rfl;omega;omega)|(apply OKx_pickT;exact rfl;(conv=>lhs;whnf)<;>exact rfl)|(apply OKx_pickF;exact rfl;(conv=>lhs;whnf)<;>exact rfl)|(apply OKx_guardT;exact rfl;exact rfl)|(apply OKx_guardF;exact rfl;exact rfl)|(apply OKx_guardU;exact rfl;exact rfl)|(apply OKx_notT;exact rfl)|(apply OKx_notF;exact rfl)|(apply OKx_extract;exact rfl;(conv=>lhs;whnf)<;>exact rfl)|(apply OKx_slit1;(conv=>lhs;whnf)<;>exact rfl;exact rfl;intro _))
      refine ⟨(by ((conv=>lhs;whnf)<;>exact rfl)), y, [_], _, (by ((conv=>lhs;whnf)<;>exact rfl)), (by ((conv=>lhs;whnf)<;>exact rfl)), fun w hp => hyy c w ((swp _).use w hp), ?_⟩
      rintro _ _ ⟨rfl, J2, hJ2, rfl⟩
      refine OKx_ent (swq J2) ?_
      simp only [zB, capB, List.cons_append, List.nil_append]
      repeat' (first|(apply OK_seq)|(apply thenQ_n)|(apply OK_region)|(refine OK_rid 12 ?_; refine OK_mix [] [0, 1, 2, 3, 4, 5] [] [6, 7, 8] [] (id := 12) (by kernel_rfl) (by kernel_rfl) rfl (Ent.nil) (by ((try simp only [pickO]) <;> exact rfl)) (by ((try simp only [pickO, nthO, List.cons_append, List.nil_append]) <;> exact rfl)) (by ((try simp only [pickO]) <;> exact rfl)) (by ((try simp only [pickO, nthO, List.cons_append, List.nil_append]) <;> exact rfl)) ?_)|(apply OKx_nilK)|(apply OK_block)|(apply blockQ_n)|(apply blockQ_s)|(apply thenQ_e)|(apply blockQ_e;exact rfl)|(apply thenQ_r)|(apply blockQ_r)|(apply OK_condT;exact rfl)|(apply OK_condF;exact rfl)|(apply OK_skip)|(apply OK_exit)|(apply OK_ret)|(apply OKx_move;(conv=>lhs;whnf)<;>exact rfl)|(apply OKx_assign;(conv=>lhs;whnf)<;>exact rfl)|(apply OKx_ldB;exact rfl;(first | exact at0|exact at1|exact at2|exact at3|exact at4|exact at5|exact at6|exact at7);exact rfl)|(apply OKx_ldR;(conv=>lhs;whnf)<;>exact rfl;(with_reducible assumption))|(apply OKx_ldI;exact rfl;(first | exact at0|exact at1|exact at2|exact at3|exact at4|exact at5|exact at6|exact at7);omega)|(apply OKx_len;exact rfl)|(apply OKx_lenR;(conv=>lhs;whnf)<;>exact rfl;(with_reducible assumption))|(apply OKx_lenR2;(conv=>lhs;whnf)<;>exact rfl;(with_reducible assumption))|(apply OKx_lenO;(conv=>lhs;whnf)<;>exact rfl;(first | exact at0|exact at1|exact at2|exact at3|exact at4|exact at5|exact at6|exact at7))|(apply OKx_lss;exact rfl;exact rfl;all_goals (intro _; try (exfalso;omega)))|(apply OKx_eql;exact rfl;exact rfl;all_goals (intro _; try (exfalso;omega)))|(apply OKx_neq;exact rfl;exact rfl;all_goals (intro _; try (exfalso;omega)))|(apply OKx_idxO;exact rfl;exact rfl;omega)|(apply OKx_idxR;(conv=>lhs;whnf)<;>exact rfl;(with_reducible assumption);exact rfl;omega;intro _ _)|(apply OKx_idxOz;exact rfl;exact rfl;omega;omega)|(apply OKx_idxRz;(conv=>lhs;whnf)<;>exact rfl;(with_reducible assumption);exact rfl;omega;omega;intro _ _)|(apply OKx_fldO;exact rfl;exact rfl)|(apply OKx_fldR;(conv=>lhs;whnf)<;>exact rfl;(with_reducible assumption); decide;intro _ _)|(apply OKx_inc;exact rfl;exact rfl;omega)|(apply OKx_addN;exact rfl;exact rfl;omega)|(apply OKx_add;exact rfl;exact rfl;omega;omega)|(apply OKx_pickT;exact rfl;(conv=>lhs;whnf)<;>exact rfl)|(apply OKx_pickF;exact rfl;(conv=>lhs;whnf)<;>exact rfl)|(apply OKx_guardT;exact rfl;exact rfl)|(apply OKx_guardF;exact rfl;exact rfl)|(apply OKx_guardU;exact rfl;exact rfl)|(apply OKx_notT;exact rfl)|(apply OKx_notF;exact rfl)|(apply OKx_extract;exact rfl;(conv=>lhs;whnf)<;>exact rfl)|(apply OKx_slit1;(conv=>lhs;whnf)<;>exact rfl;exact rfl;intro _))
      refine bodyQ_r2 (by ((conv=>lhs;whnf)<;>exact rfl)) (by ((conv=>lhs;whnf)<;>exact rfl)) ?_
      subst hR
      exact ⟨_, Ent.refl _ _, fin1 hv0 ga c J2 hJ2⟩
  | false =>
    have hg0 : (gatL t v t.par.length).length = 0 := by rw [gatL_leaf hi _ (Nat.le_refl _)]; rfl
    obtain ⟨p, hp, hpv2⟩ := leaf_place hc v (by omega) hi
    have hbe := bel_leaf hc p hp v hpv2
    have hix := nmT_idx hc p v hp hpv2
    have hs1 : srtL [(p : Int)] = [(p : Int)] := List.perm_singleton.1 (srtL_perm _)
    have hidx : ∀ w1, Below w0.heap.size w0 w1 → SatV Tryz.prog 52 [sv, .string (t.names.getD v ByteArray.empty)] w1 (.int .i64 (p : Int)) := fun w1 hb => by
      have := idxS_sat sv (nmT t) (t.names.getD v ByteArray.empty) w1 (hS.below hb) (by rw [nmT_len];omega)
      rwa [hix] at this
    by_cases hv0 : v = 0
    · simp only [zB, capB, List.cons_append, List.nil_append]
      repeat' (first|(apply OK_seq)|(apply thenQ_n)|(apply OK_region)|(apply OKx_gc 52;exact rfl; refine OKx_callV (f := 52) rfl rfl rfl (fun w1 hp => hidx w1 hp.below) ?_)|(apply OKx_gc 22;exact rfl; refine OKx_callL (f := 22) rfl rfl (sort_int_sat _ 1 1 [(p : Int)] _ _ 0 rfl rfl (by omega)) ?_; rintro _ _ ⟨rfl, rfl⟩; rw [List.set_cons_zero])|(refine OK_rid 12 ?_; refine OK_mix [] [0, 1, 2, 3, 4, 5] [] [6, 7, 8] [] (id := 12) (by kernel_rfl) (by kernel_rfl) rfl (Ent.nil) (by ((try simp only [pickO]) <;> exact rfl)) (by ((try simp only [pickO, nthO, List.cons_append, List.nil_append]) <;> exact rfl)) (by ((try simp only [pickO]) <;> exact rfl)) (by ((try simp only [pickO, nthO, List.cons_append, List.nil_append]) <;> exact rfl)) ?_)|(apply OKx_nilK)|(apply OK_block)|(apply blockQ_n)|(apply blockQ_s)|(apply thenQ_e)|(apply blockQ_e;exact rfl)|(apply thenQ_r)|(apply blockQ_r)|(apply OK_condT;exact rfl)|(apply OK_condF;exact rfl)|(apply OK_skip)|(apply OK_exit)|(apply OK_ret)|(apply OKx_move;(conv=>lhs;whnf)<;>exact rfl)|(apply OKx_assign;(conv=>lhs;whnf)<;>exact rfl)|(apply OKx_ldB;exact rfl;(first | exact at0|exact at1|exact at2|exact at3|exact at4|exact at5|exact at6|exact at7);exact rfl)|(apply OKx_ldR;(conv=>lhs;whnf)<;>exact rfl;(with_reducible assumption))|(apply OKx_ldI;exact rfl;(first | exact at0|exact at1|exact at2|exact at3|exact at4|exact at5|exact at6|exact at7);omega)|(apply OKx_len;exact rfl)|(apply OKx_lenR;(conv=>lhs;whnf)<;>exact rfl;(with_reducible assumption))|(apply OKx_lenR2;(conv=>lhs;whnf)<;>exact rfl;(with_reducible assumption))|(apply OKx_lenO;(conv=>lhs;whnf)<;>exact rfl;(first | exact at0|exact at1|exact at2|exact at3|exact at4|exact at5|exact at6|exact at7))|(apply OKx_lss;exact rfl;exact rfl;all_goals (intro _; try (exfalso;omega)))|(apply OKx_eql;exact rfl;exact rfl;all_goals (intro _; try (exfalso;omega)))|(apply OKx_neq;exact rfl;exact rfl;all_goals (intro _; try (exfalso;omega)))|(apply OKx_idxO;exact rfl;exact rfl;omega)|(apply OKx_idxR;(conv=>lhs;whnf)<;>exact rfl;(with_reducible assumption);exact rfl;omega;intro _ _)|(apply OKx_idxOz;exact rfl;exact rfl;omega;omega)|(apply OKx_idxRz;(conv=>lhs;whnf)<;>exact rfl;(with_reducible assumption);exact rfl;omega;omega;intro _ _)|(apply OKx_fldO;exact rfl;exact rfl)|(apply OKx_fldR;(conv=>lhs;whnf)<;>exact rfl;(with_reducible assumption); decide;intro _ _)|(apply OKx_inc;exact rfl;exact rfl;omega)|(apply OKx_addN;exact rfl;exact rfl;omega)|(apply OKx_add;exact rfl;exact rfl;omega;omega)|(apply OKx_pickT;exact rfl;(conv=>lhs;whnf)<;>exact rfl)|(apply OKx_pickF;exact rfl;(conv=>lhs;whnf)<;>exact rfl)|(apply OKx_guardT;exact rfl;exact rfl)|(apply OKx_guardF;exact rfl;exact rfl)|(apply OKx_guardU;exact rfl;exact rfl)|(apply OKx_notT;exact rfl)|(apply OKx_notF;exact rfl)|(apply OKx_extract;exact rfl;(conv=>lhs;whnf)<;>exact rfl)|(apply OKx_slit1;(conv=>lhs;whnf)<;>exact rfl;exact rfl;intro _))
      refine bodyQ_r2 (by ((conv=>lhs;whnf)<;>exact rfl)) (by ((conv=>lhs;whnf)<;>exact rfl)) ?_
      subst hR
      exact ⟨_, Ent.sub ((List.sublist_cons_self _ _).trans (List.sublist_cons_self _ _)), fin0 hv0 _⟩
    · have hyy := fun g => hy E v g 1 (l ++ l') J' (by omega) (by omega) (by rw [List.length_append];omega) hJ'
      rw [hbe] at hyy fin1
      simp only [zB, capB, List.cons_append, List.nil_append]
      repeat' (first|(refine OK_regionYg (id := 14) [_, _, _, _, _, _] [_, _, _] rfl rfl rfl ?_)|(apply OK_seq)|(apply thenQ_n)|(apply OK_region)|(apply OKx_gc 52;exact rfl; refine OKx_callV (f := 52) rfl rfl rfl (fun w1 hp => hidx w1 hp.below) ?_)|(apply OKx_gc 22;exact rfl; refine OKx_callL (f := 22) rfl rfl (sort_int_sat _ 1 1 [(p : Int)] _ _ 0 rfl rfl (by omega)) ?_; rintro _ _ ⟨rfl, rfl⟩; rw [List.set_cons_zero, hs1])|(refine OK_rid 12 ?_; refine OK_mix [] [0, 1, 2, 3, 4, 5] [] [6, 7, 8] [] (id := 12) (by kernel_rfl) (by kernel_rfl) rfl (Ent.nil) (by ((try simp only [pickO]) <;> exact rfl)) (by ((try simp only [pickO, nthO, List.cons_append, List.nil_append]) <;> exact rfl)) (by ((try simp only [pickO]) <;> exact rfl)) (by ((try simp only [pickO, nthO, List.cons_append, List.nil_append]) <;> exact rfl)) ?_)|(apply OKx_nilK)|(apply OK_block)|(apply blockQ_n)|(apply blockQ_s)|(apply thenQ_e)|(apply blockQ_e;exact rfl)|(apply thenQ_r)|(apply blockQ_r)|(apply OK_condT;exact rfl)|(apply OK_condF;exact rfl)|(apply OK_skip)|(apply OK_exit)|(apply OK_ret)|(apply OKx_move;(conv=>lhs;whnf)<;>exact rfl)|(apply OKx_assign;(conv=>lhs;whnf)<;>exact rfl)|(apply OKx_ldB;exact rfl;(first | exact at0|exact at1|exact at2|exact at3|exact at4|exact at5|exact at6|exact at7);exact rfl)|(apply OKx_ldR;(conv=>lhs;whnf)<;>exact rfl;(with_reducible assumption))|(apply OKx_ldI;exact rfl;(first | exact at0|exact at1|exact at2|exact at3|exact at4|exact at5|exact at6|exact at7);omega)|(apply OKx_len;exact rfl)|(apply OKx_lenR;(conv=>lhs;whnf)<;>exact rfl;(with_reducible assumption))|(apply OKx_lenR2;(conv=>lhs;whnf)<;>exact rfl;(with_reducible assumption))|(apply OKx_lenO;(conv=>lhs;whnf)<;>exact rfl;(first | exact at0|exact at1|exact at2|exact at3|exact at4|exact at5|exact at6|exact at7))|(apply OKx_lss;exact rfl;exact rfl;all_goals (intro _; try (exfalso;omega)))|(apply OKx_eql;exact rfl;exact rfl;all_goals (intro _; try (exfalso;omega)))|(apply OKx_neq;exact rfl;exact rfl;all_goals (intro _; try (exfalso;omega)))|(apply OKx_idxO;exact rfl;exact rfl;omega)|(apply OKx_idxR;(conv=>lhs;whnf)<;>exact rfl;(with_reducible assumption);exact rfl;omega;intro _ _)|(apply OKx_idxOz;exact rfl;exact rfl;omega;omega)|(apply OKx_idxRz;(conv=>lhs;whnf)<;>exact rfl;(with_reducible assumption);exact rfl;omega;omega;intro _ _)|(apply OKx_fldO;exact rfl;exact rfl)|(apply OKx_fldR;(conv=>lhs;whnf)<;>exact rfl;(with_reducible assumption); decide;intro _ _)|(apply OKx_inc;exact rfl;exact rfl;omega)|(apply OKx_addN;exact rfl;exact rfl;omega)|(apply OKx_add;exact rfl;exact rfl;omega;omega)|(apply OKx_pickT;exact rfl;(conv=>lhs;whnf)<;>exact rfl)|(apply OKx_pickF;exact rfl;(conv=>lhs;whnf)<;>exact rfl)|(apply OKx_guardT;exact rfl;exact rfl)|(apply OKx_guardF;exact rfl;exact rfl)|(apply OKx_guardU;exact rfl;exact rfl)|(apply OKx_notT;exact rfl)|(apply OKx_notF;exact rfl)|(apply OKx_extract;exact rfl;(conv=>lhs;whnf)<;>exact rfl)|(apply OKx_slit1;(conv=>lhs;whnf)<;>exact rfl;exact rfl;intro _))
      refine ⟨(by ((conv=>lhs;whnf)<;>exact rfl)), y, [_], _, (by ((conv=>lhs;whnf)<;>exact rfl)), (by ((conv=>lhs;whnf)<;>exact rfl)), fun w hp => hyy _ w ((swp _).use w ((Ent.sub (List.Sublist.cons_cons _ (List.sublist_cons_self _ _))).use w hp)), ?_⟩
      rintro _ _ ⟨rfl, J2, hJ2, rfl⟩
      refine OKx_ent (swq J2) ?_
      simp only [zB, capB, List.cons_append, List.nil_append]
      repeat' (first|(apply OK_seq)|(apply thenQ_n)|(apply OK_region)|(refine OK_rid 12 ?_; refine OK_mix [] [0, 1, 2, 3, 4, 5] [] [6, 7, 8] [] (id := 12) (by kernel_rfl) (by kernel_rfl) rfl (Ent.nil) (by ((try simp only [pickO]) <;> exact rfl)) (by ((try simp only [pickO, nthO, List.cons_append, List.nil_append]) <;> exact rfl)) (by ((try simp only [pickO]) <;> exact rfl)) (by ((try simp only [pickO, nthO, List.cons_append, List.nil_append]) <;> exact rfl)) ?_)|(apply OKx_nilK)|(apply OK_block)|(apply blockQ_n)|(apply blockQ_s)|(apply thenQ_e)|(apply blockQ_e;exact rfl)|(apply thenQ_r)|(apply blockQ_r)|(apply OK_condT;exact rfl)|(apply OK_condF;exact rfl)|(apply OK_skip)|(apply OK_exit)|(apply OK_ret)|(apply OKx_move;(conv=>lhs;whnf)<;>exact rfl)|(apply OKx_assign;(conv=>lhs;whnf)<;>exact rfl)|(apply OKx_ldB;exact rfl;(first | exact at0|exact at1|exact at2|exact at3|exact at4|exact at5|exact at6|exact at7);exact rfl)|(apply OKx_ldR;(conv=>lhs;whnf)<;>exact rfl;(with_reducible assumption))|(apply OKx_ldI;exact rfl;(first | exact at0|exact at1|exact at2|exact at3|exact at4|exact at5|exact at6|exact at7);omega)|(apply OKx_len;exact rfl)|(apply OKx_lenR;(conv=>lhs;whnf)<;>exact rfl;(with_reducible assumption))|(apply OKx_lenR2;(conv=>lhs;whnf)<;>exact rfl;(with_reducible assumption))|(apply OKx_lenO;(conv=>lhs;whnf)<;>exact rfl;(first | exact at0|exact at1|exact at2|exact at3|exact at4|exact at5|exact at6|exact at7))|(apply OKx_lss;exact rfl;exact rfl;all_goals (intro _; try (exfalso;omega)))|(apply OKx_eql;exact rfl;exact rfl;all_goals (intro _; try (exfalso;omega)))|(apply OKx_neq;exact rfl;exact rfl;all_goals (intro _; try (exfalso;omega)))|(apply OKx_idxO;exact rfl;exact rfl;omega)|(apply OKx_idxR;(conv=>lhs;whnf)<;>exact rfl;(with_reducible assumption);exact rfl;omega;intro _ _)|(apply OKx_idxOz;exact rfl;exact rfl;omega;omega)|(apply OKx_idxRz;(conv=>lhs;whnf)<;>exact rfl;(with_reducible assumption);exact rfl;omega;omega;intro _ _)|(apply OKx_fldO;exact rfl;exact rfl)|(apply OKx_fldR;(conv=>lhs;whnf)<;>exact rfl;(with_reducible assumption); decide;intro _ _)|(apply OKx_inc;exact rfl;exact rfl;omega)|(apply OKx_addN;exact rfl;exact rfl;omega)|(apply OKx_add;exact rfl;exact rfl;omega;omega)|(apply OKx_pickT;exact rfl;(conv=>lhs;whnf)<;>exact rfl)|(apply OKx_pickF;exact rfl;(conv=>lhs;whnf)<;>exact rfl)|(apply OKx_guardT;exact rfl;exact rfl)|(apply OKx_guardF;exact rfl;exact rfl)|(apply OKx_guardU;exact rfl;exact rfl)|(apply OKx_notT;exact rfl)|(apply OKx_notF;exact rfl)|(apply OKx_extract;exact rfl;(conv=>lhs;whnf)<;>exact rfl)|(apply OKx_slit1;(conv=>lhs;whnf)<;>exact rfl;exact rfl;intro _))
      refine bodyQ_r2 (by ((conv=>lhs;whnf)<;>exact rfl)) (by ((conv=>lhs;whnf)<;>exact rfl)) ?_
      subst hR
      exact ⟨_, Ent.refl _ _, fin1 hv0 _ 1 J2 hJ2⟩
end Go.Proofs.YtpknpbeiifjmgaaGreat
