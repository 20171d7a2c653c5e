/-
  Part 13 of the proof: As38. No statement of the seat is proved here.
-/
import Derived.Test.YtpknpbeiifjmgaaDoorMHSa3812
namespace Go.Proofs.YtpknpbeiifjmgaaDoor
open Go.RowKit
theorem Ent.pickT {w0 : World} (A X : List Res) (is : List Nat) (hn : nodupB is = true) : Ent w0 (A ++ X) (pickL A is ++ X) := Ent.mk fun w hp => by
  induction is with
  | nil => exact hp.sub (List.sublist_append_right A X)
  | cons i is ih =>
    have hm : memN i is = false := by
      cases hb : memN i is with
      | false => rfl
      | true => simp [nodupB, hb] at hn
    have ih := ih (by simpa [nodupB, hm] using hn)
    unfold pickL at ih ⊢
    rw [List.filterMap_cons]
    cases hi : A[i]? with
    | none => exact ih
    | some r =>
      have hil := (List.getElem?_eq_some_iff.1 hi).1
      have hi' : (A ++ X)[i]? = some r := by rw [List.getElem?_append_left hil]; exact hi
      refine ih.cons (hp.ok r (List.mem_of_getElem? hi')) fun s hs => ?_
      rcases List.mem_append.1 hs with hs | hs
      · obtain ⟨j, hj, hjs⟩ := List.mem_filterMap.1 hs
        have hjl := (List.getElem?_eq_some_iff.1 hjs).1
        have hij : i ≠ j := by
          rintro rfl
          have := (memN_iff i is).2 hj
          rw [hm] at this; cases this
        exact hp.apart hij hi' (j := j) (by rw [List.getElem?_append_left hjl]; exact hjs)
      · obtain ⟨j, hj, rfl⟩ := List.getElem_of_mem hs
        exact hp.apart (i := i) (j := A.length + j) (by omega) hi' (by rw [List.getElem?_append_right (by omega)]; simp [hj])
set_option maxRecDepth 100000 in
set_option maxHeartbeats 4000000 in
theorem cloneI_sat (v : Value) (xs : List Int) (w : World) (h : Ints w v xs) (h8 : xs.length ≤ 1000000) :
    Sat Tryd.prog 17 [v] w (fun u L => (∃ a c, u = .slice a xs.length c ∧ (0 < xs.length → ∃ g, a = some ⟨g, 0, none⟩)) ∧ L = [irow u xs]) := by
  have hs := clone_int_sat v xs w h h8
  refine ⟨hs.enters, fun w1 hp => (hs.calls w1 hp).mono fun e w' ⟨u, L', h1, h2, h3⟩ => ⟨u, L', h1, h2, ?_, h3⟩⟩
  have ho : w'.ownsRow w.heap.size 3 1 u xs.length (ints xs) := h2.ok (irow u xs) (by rw [h3]; exact List.mem_cons_self)
  rcases ho.2 with ⟨h0, h4⟩ | ⟨g', cap, cur, h0, _⟩
  · have : xs.length = 0 := by first | omega | exact h4.1
    rw [this]
    exact ⟨_, _, h0, fun h => absurd h (by omega)⟩
  · exact ⟨_, _, h0, fun _ => ⟨g', rfl⟩⟩
def whl (vs st o : List Int) (i : Nat) : List (List Int) := (asgs vs (st.drop i)).map (o.take i ++ ·)
def tail1 (vs st o : List Int) (i : Nat) (x : Int) : List (List Int) := (asgs vs (st.drop (i + 1))).map (fun b => o.take i ++ x :: b)
def part (vs st o : List Int) (i k : Nat) : List (List Int) := (vs.take k).flatMap (tail1 vs st o i)
theorem drop_at (st : List Int) (i : Nat) (h : i < st.length) : st.drop i = st.getD i 0 :: st.drop (i + 1) := by
  rw [getD_lt _ _ _ h]
  exact List.drop_eq_getElem_cons h
theorem take_at (o : List Int) (i : Nat) (h : i < o.length) : o.take (i + 1) = o.take i ++ [o.getD i 0] := by
  rw [getD_lt _ _ _ h]
  exact List.take_succ_eq_append_getElem h
theorem whl_end (vs st o : List Int) (N : Nat) (h : st.length = N) (ho : o.length = N) : whl vs st o N = [o] := by
  unfold whl
  rw [List.drop_eq_nil_of_le (by omega), List.take_of_length_le (by omega)]
  simp [asgs]
theorem whl_zero (vs st o : List Int) : whl vs st o 0 = asgs vs st := by simp [whl]
theorem whl_pos (vs st o : List Int) (i : Nat) (h : i < st.length) (ho : i < o.length) (hp : 0 ≤ st.getD i 0) (he : o.getD i 0 = st.getD i 0) : whl vs st o i = whl vs st o (i + 1) := by
  unfold whl
  rw [drop_at st i h, take_at o i ho, he]
  simp only [asgs]
  rw [if_neg (by omega), List.map_map]
  apply List.map_congr_left
  intro b _
  simp
theorem part_step (vs st o : List Int) (i k : Nat) (h : k < vs.length) : part vs st o i (k + 1) = part vs st o i k ++ tail1 vs st o i (vs.getD k 0) := by
  unfold part
  rw [take_at vs k h, List.flatMap_append]
  simp
theorem part_end (vs st o : List Int) (i : Nat) (h : i < st.length) (hn : st.getD i 0 < 0) : part vs st o i vs.length = whl vs st o i := by
  unfold part whl
  rw [drop_at st i h, List.take_length]
  simp only [asgs]
  rw [if_pos hn, List.map_flatMap]
  congr 1
  funext x
  unfold tail1
  rw [List.map_map]
  rfl
theorem part_pre (vs st o : List Int) (i k : Nat) : part vs st o i k <+: part vs st o i vs.length := by
  unfold part
  rw [List.take_length]
  refine ⟨(vs.drop k).flatMap (tail1 vs st o i), ?_⟩
  rw [← List.flatMap_append, List.take_append_drop]
theorem whl_set (vs st o o' : List Int) (i : Nat) (x : Int) (h : i < o'.length) (ht : o'.take i = o.take i) : whl vs st (o'.set i x) (i + 1) = tail1 vs st o i x := by
  unfold whl tail1
  have e : (o'.set i x).take (i + 1) = o.take i ++ [x] := by
    rw [take_at _ i (by simpa using h), List.take_set_of_le (Nat.le_refl i), ht]
    simp [h]
  rw [e]
  apply List.map_congr_left
  intro b _
  simp
theorem swapA {w0 : World} (r : Res) (J Z B : List Res) : Ent w0 ((r :: (J ++ Z)) ++ B) (r :: (Z ++ (J ++ B))) := by
  refine Ent.perm ?_
  rw [List.cons_append]
  refine List.Perm.cons r ?_
  rw [← List.append_assoc Z J B]
  exact List.perm_append_comm.append_right B
theorem swapB {w0 : World} (r : Res) (J Z B : List Res) : Ent w0 (r :: (Z ++ (J ++ B))) ((r :: (J ++ Z)) ++ B) := by
  refine Ent.perm ?_
  rw [List.cons_append]
  refine List.Perm.cons r ?_
  rw [← List.append_assoc Z J B]
  exact List.perm_append_comm.append_right B
def capsA (g1 gy go gf gv : Nat) : List Value := [.pointer (some ⟨g1, 0, none⟩), .pointer (some ⟨gy, 0, none⟩), .pointer (some ⟨go, 0, none⟩), .pointer (some ⟨gf, 0, none⟩), .pointer (some ⟨gv, 0, none⟩)]
def zA (y m g c g1 gy go gf gv : Nat) (sv ov : Value) (vs : List Int) : List Res :=
  [.box 27 g1 [sv], .box 65 gy [.func (.yield y) #[] #[]], .box 27 go [ov], .box 76 gf [.func (.func 64) #[] (capsA g1 gy go gf gv).toArray], .box 27 gv [.slice (some ⟨g, 0, none⟩) m c],
    .row 3 1 (.slice (some ⟨g, 0, none⟩) m c) m (ints vs)]
def rA (ov : Value) (N : Nat) (o : List Int) : Res := .row 3 1 ov N (ints o)
def FilR (N : Nat) (ov : Value) (Z Br : List Res) (Bd : Code → List Res) (vs st : List Int) (JP : List (List Int) → List Res → Prop) (JE : Code → List Res → Prop) (i : Nat) (o : List Int) (pre : List (List Int)) (u : Value) (L : List Res) : Prop :=
  (u = .bool true ∧ ∃ o' J', o'.length = N ∧ o'.take i = o.take i ∧ (∀ j, i ≤ j → 0 ≤ st.getD j 0 → o'.getD j 0 = st.getD j 0) ∧ JP (pre ++ whl vs st o i) J' ∧ L = rA ov N o' :: (Z ++ (J' ++ Br))) ∨
  (u = .bool false ∧ ∃ c o' J', o'.length = N ∧ JE c J' ∧ L = rA ov N o' :: (Z ++ (J' ++ Bd c)))
def YldR (N : Nat) (ov : Value) (Z Br : List Res) (Bd : Code → List Res) (JP : List (List Int) → List Res → Prop) (JE : Code → List Res → Prop) (o : List Int) (pre : List (List Int)) (u : Value) (L : List Res) : Prop :=
  (u = .bool true ∧ ∃ J', JP (pre ++ [o]) J' ∧ L = (rA ov N o :: (J' ++ Z)) ++ Br) ∨ (u = .bool false ∧ ∃ c J', JE c J' ∧ L = (rA ov N o :: (J' ++ Z)) ++ Bd c)
set_option maxRecDepth 100000 in
set_option maxHeartbeats 4000000 in
set_option maxRecDepth 100000 in
set_option maxHeartbeats 4000000 in
theorem fill_sat (y N m g c g1 gy go gf gv : Nat) (sv ov : Value) (vs st : List Int) (all : List (List Int)) (w0 : World) (Br : List Res) (Bd : Code → List Res) (JP : List (List Int) → List Res → Prop) (JE : Code → List Res → Prop)
    (hsv : Ints w0 sv st) (hN : st.length = N) (hN8 : N ≤ 1000) (hov : 0 < N → ∃ g c, ov = .slice (some ⟨g, 0, none⟩) N c) (hm : vs.length = m) (hm8 : m ≤ 1000)
    (hy : ∀ o pre J, o.length = N → JP pre J → (pre ++ [o]) <+: all → SatY Tryd.prog y [ov] w0 ((rA ov N o :: (J ++ zA y m g c g1 gy go gf gv sv ov vs)) ++ Br) (YldR N ov (zA y m g c g1 gy go gf gv sv ov vs) Br Bd JP JE o pre)) :
    ∀ k i o pre J, i + k = N → o.length = N → (∀ j, i ≤ j → 0 ≤ st.getD j 0 → o.getD j 0 = st.getD j 0) → JP pre J → (pre ++ whl vs st o i) <+: all →
      SatL Tryd.prog 64 (.int .i64 (i : Int) :: capsA g1 gy go gf gv) w0 (rA ov N o :: (zA y m g c g1 gy go gf gv sv ov vs ++ (J ++ Br))) (FilR N ov (zA y m g c g1 gy go gf gv sv ov vs) Br Bd vs st JP JE i o pre) := by
  have hsl := hsv.sl
  rw [hN] at hsl
  have hsb := hsl.bound
  intro k
  induction k with
  | zero =>
    intro i o pre J hi ho hkn hJ hpre
    obtain rfl : i = N := by omega
    rw [whl_end vs st o i hN ho] at hpre
    have hy := hy o pre J ho hJ hpre
    simp only [capsA, rA]
    generalize hZ : FilR _ _ _ _ _ _ _ _ _ _ _ _ = R
    simp only [zA, List.cons_append, List.nil_append]
    refine SatL.of 42 [7] Tryd.func64 (by kernel_rfl) (by kernel_rfl) rfl rfl rfl rfl ?_
    repeat' (first|(refine OK_regionY (id := 2) 0 [_, _] [_] rfl rfl ?_)|(apply OK_seq)|(apply thenQ_n)|(apply OK_region)|(apply OKx_nilK)|(apply OK_block)|(apply blockQ_n)|(apply blockQ_s)|(apply thenQ_e)|(apply blockQ_e;exact rfl)|(apply thenQ_r)|(apply blockQ_r)|(apply OK_condT;exact rfl)|(apply OK_condF;exact rfl)|(apply OK_skip)|(apply OK_exit)|(apply OK_ret)|(apply OKx_move;(conv=>lhs;whnf)<;>exact rfl)|(apply OKx_assign;(conv=>lhs;whnf)<;>exact rfl)|(apply OKx_ldB;exact rfl;(first | exact at0|exact at1|exact at2|exact at3|exact at4|exact at5|exact at6|exact at7);exact rfl)|(apply OKx_ldR;(conv=>lhs;whnf)<;>exact rfl;(with_reducible assumption))|(apply OKx_ldI;exact rfl;(first | exact at0|exact at1|exact at2|exact at3|exact at4|exact at5|exact at6|exact at7);omega)|(apply OKx_len;exact rfl)|(apply OKx_lenR;(conv=>lhs;whnf)<;>exact rfl;(with_reducible assumption))|(apply OKx_lenR2;(conv=>lhs;whnf)<;>exact rfl;(with_reducible assumption))|(apply OKx_lenO;(conv=>lhs;whnf)<;>exact rfl;(first | exact at0|exact at1|exact at2|exact at3|exact at4|exact at5|exact at6|exact at7))|(apply OKx_lss;exact rfl;exact rfl;all_goals (intro _; try (exfalso;omega)))|(apply OKx_geq;exact rfl;exact rfl;all_goals (intro _; try (exfalso;omega)))|(apply OKx_eql;exact rfl;exact rfl;all_goals (intro _; try (exfalso;omega)))|(apply OKx_idxO;exact rfl;exact rfl;omega)|(apply OKx_idxR;(conv=>lhs;whnf)<;>exact rfl;(with_reducible assumption);exact rfl;omega;intro _ _)|(apply OKx_idxOz;exact rfl;exact rfl;omega;omega)|(apply OKx_idxRz;(conv=>lhs;whnf)<;>exact rfl;(with_reducible assumption);exact rfl;omega;omega;intro _ _)|(apply OKx_inc;exact rfl;exact rfl;omega)|(apply OKx_addN;exact rfl;exact rfl;omega)|(apply OKx_add;exact rfl;exact rfl;omega;omega)|(apply OKx_notT;exact rfl)|(apply OKx_notF;exact rfl)|(apply OKx_stI;exact rfl;exact rfl;(first | exact at0|exact at1|exact at2|exact at3|exact at4|exact at5|exact at6|exact at7);omega;exact rfl)|(apply OKx_stB;exact rfl;(conv=>lhs;whnf)<;>exact rfl;exact rfl;exact rfl;(first | exact at0|exact at1|exact at2|exact at3|exact at4|exact at5|exact at6|exact at7);exact rfl;exact rfl;exact rfl))
    refine ⟨y, [ov], YldR i ov (zA y m g c g1 gy go gf gv sv ov vs) Br Bd JP JE o pre, (by ((conv=>lhs;whnf)<;>exact rfl)), (by ((conv=>lhs;whnf)<;>exact rfl)), fun w hp => hy w ((swapB (rA ov i o) J (zA y m g c g1 gy go gf gv sv ov vs) Br).use w hp), ?_⟩
    rintro _ _ (⟨rfl, J', hJ', rfl⟩ | ⟨rfl, cc, J', hJ', rfl⟩)
    · repeat' (first|(apply OK_seq)|(apply thenQ_n)|(apply OK_region)|(apply OKx_nilK)|(apply OK_block)|(apply blockQ_n)|(apply blockQ_s)|(apply thenQ_e)|(apply blockQ_e;exact rfl)|(apply thenQ_r)|(apply blockQ_r)|(apply OK_condT;exact rfl)|(apply OK_condF;exact rfl)|(apply OK_skip)|(apply OK_exit)|(apply OK_ret)|(apply OKx_move;(conv=>lhs;whnf)<;>exact rfl)|(apply OKx_assign;(conv=>lhs;whnf)<;>exact rfl)|(apply OKx_ldB;exact rfl;(first | exact at0|exact at1|exact at2|exact at3|exact at4|exact at5|exact at6|exact at7);exact rfl)|(apply OKx_ldR;(conv=>lhs;whnf)<;>exact rfl;(with_reducible assumption))|(apply OKx_ldI;exact rfl;(first | exact at0|exact at1|exact at2|exact at3|exact at4|exact at5|exact at6|exact at7);omega)|(apply OKx_len;exact rfl)|(apply OKx_lenR;(conv=>lhs;whnf)<;>exact rfl;(with_reducible assumption))|(apply OKx_lenR2;(conv=>lhs;whnf)<;>exact rfl;(with_reducible assumption))|(apply OKx_lenO;(conv=>lhs;whnf)<;>exact rfl;(first | exact at0|exact at1|exact at2|exact at3|exact at4|exact at5|exact at6|exact at7))|(apply OKx_lss;exact rfl;exact rfl;all_goals (intro _; try (exfalso;omega)))|(apply OKx_geq;exact rfl;exact rfl;all_goals (intro _; try (exfalso;omega)))|(apply OKx_eql;exact rfl;exact rfl;all_goals (intro _; try (exfalso;omega)))|(apply OKx_idxO;exact rfl;exact rfl;omega)|(apply OKx_idxR;(conv=>lhs;whnf)<;>exact rfl;(with_reducible assumption);exact rfl;omega;intro _ _)|(apply OKx_idxOz;exact rfl;exact rfl;omega;omega)|(apply OKx_idxRz;(conv=>lhs;whnf)<;>exact rfl;(with_reducible assumption);exact rfl;omega;omega;intro _ _)|(apply OKx_inc;exact rfl;exact rfl;omega)|(apply OKx_addN;exact rfl;exact rfl;omega)|(apply OKx_add;exact rfl;exact rfl;omega;omega)|(apply OKx_notT;exact rfl)|(apply OKx_notF;exact rfl)|(apply OKx_stI;exact rfl;exact rfl;(first | exact at0|exact at1|exact at2|exact at3|exact at4|exact at5|exact at6|exact at7);omega;exact rfl)|(apply OKx_stB;exact rfl;(conv=>lhs;whnf)<;>exact rfl;exact rfl;exact rfl;(first | exact at0|exact at1|exact at2|exact at3|exact at4|exact at5|exact at6|exact at7);exact rfl;exact rfl;exact rfl))
      refine bodyQ_r1 (by ((conv=>lhs;whnf)<;>exact rfl)) ?_
      subst hZ
      exact ⟨_, swapA _ _ _ _, .inl ⟨rfl, o, J', ho, rfl, hkn, by rw [whl_end vs st o i hN ho]; exact hJ', rfl⟩⟩
    · repeat' (first|(apply OK_seq)|(apply thenQ_n)|(apply OK_region)|(apply OKx_nilK)|(apply OK_block)|(apply blockQ_n)|(apply blockQ_s)|(apply thenQ_e)|(apply blockQ_e;exact rfl)|(apply thenQ_r)|(apply blockQ_r)|(apply OK_condT;exact rfl)|(apply OK_condF;exact rfl)|(apply OK_skip)|(apply OK_exit)|(apply OK_ret)|(apply OKx_move;(conv=>lhs;whnf)<;>exact rfl)|(apply OKx_assign;(conv=>lhs;whnf)<;>exact rfl)|(apply OKx_ldB;exact rfl;(first | exact at0|exact at1|exact at2|exact at3|exact at4|exact at5|exact at6|exact at7);exact rfl)|(apply OKx_ldR;(conv=>lhs;whnf)<;>exact rfl;(with_reducible assumption))|(apply OKx_ldI;exact rfl;(first | exact at0|exact at1|exact at2|exact at3|exact at4|exact at5|exact at6|exact at7);omega)|(apply OKx_len;exact rfl)|(apply OKx_lenR;(conv=>lhs;whnf)<;>exact rfl;(with_reducible assumption))|(apply OKx_lenR2;(conv=>lhs;whnf)<;>exact rfl;(with_reducible assumption))|(apply OKx_lenO;(conv=>lhs;whnf)<;>exact rfl;(first | exact at0|exact at1|exact at2|exact at3|exact at4|exact at5|exact at6|exact at7))|(apply OKx_lss;exact rfl;exact rfl;all_goals (intro _; try (exfalso;omega)))|(apply OKx_geq;exact rfl;exact rfl;all_goals (intro _; try (exfalso;omega)))|(apply OKx_eql;exact rfl;exact rfl;all_goals (intro _; try (exfalso;omega)))|(apply OKx_idxO;exact rfl;exact rfl;omega)|(apply OKx_idxR;(conv=>lhs;whnf)<;>exact rfl;(with_reducible assumption);exact rfl;omega;intro _ _)|(apply OKx_idxOz;exact rfl;exact rfl;omega;omega)|(apply OKx_idxRz;(conv=>lhs;whnf)<;>exact rfl;(with_reducible assumption);exact rfl;omega;omega;intro _ _)|(apply OKx_inc;exact rfl;exact rfl;omega)|(apply OKx_addN;exact rfl;exact rfl;omega)|(apply OKx_add;exact rfl;exact rfl;omega;omega)|(apply OKx_notT;exact rfl)|(apply OKx_notF;exact rfl)|(apply OKx_stI;exact rfl;exact rfl;(first | exact at0|exact at1|exact at2|exact at3|exact at4|exact at5|exact at6|exact at7);omega;exact rfl)|(apply OKx_stB;exact rfl;(conv=>lhs;whnf)<;>exact rfl;exact rfl;exact rfl;(first | exact at0|exact at1|exact at2|exact at3|exact at4|exact at5|exact at6|exact at7);exact rfl;exact rfl;exact rfl))
      refine bodyQ_r1 (by ((conv=>lhs;whnf)<;>exact rfl)) ?_
      subst hZ
      exact ⟨_, swapA _ _ _ _, .inr ⟨rfl, cc, o, J', ho, hJ', rfl⟩⟩
  | succ k ih =>
    intro i o pre J hi ho hkn hJ hpre
    obtain ⟨go2, co2, hoe⟩ := hov (by omega)
    have ihp := ih (i + 1)
    clear ih
    simp only [capsA, rA]
    generalize hZ : FilR _ _ _ _ _ _ _ _ _ _ _ _ = R
    by_cases hneg : st.getD i 0 < 0
    · have hpe := part_end vs st o i (by omega) hneg
      simp only [zA, List.cons_append, List.nil_append]
      subst hoe
      refine SatL.of 42 [7] Tryd.func64 (by kernel_rfl) (by kernel_rfl) rfl rfl rfl rfl ?_
      repeat' (first|(apply OK_seq)|(apply thenQ_n)|(apply OK_region)|(apply OKx_nilK)|(apply OK_block)|(apply blockQ_n)|(apply blockQ_s)|(apply thenQ_e)|(apply blockQ_e;exact rfl)|(apply thenQ_r)|(apply blockQ_r)|(apply OK_condT;exact rfl)|(apply OK_condF;exact rfl)|(apply OK_skip)|(apply OK_exit)|(apply OK_ret)|(apply OKx_move;(conv=>lhs;whnf)<;>exact rfl)|(apply OKx_assign;(conv=>lhs;whnf)<;>exact rfl)|(apply OKx_ldB;exact rfl;(first | exact at0|exact at1|exact at2|exact at3|exact at4|exact at5|exact at6|exact at7);exact rfl)|(apply OKx_ldR;(conv=>lhs;whnf)<;>exact rfl;(with_reducible assumption))|(apply OKx_ldI;exact rfl;(first | exact at0|exact at1|exact at2|exact at3|exact at4|exact at5|exact at6|exact at7);omega)|(apply OKx_len;exact rfl)|(apply OKx_lenR;(conv=>lhs;whnf)<;>exact rfl;(with_reducible assumption))|(apply OKx_lenR2;(conv=>lhs;whnf)<;>exact rfl;(with_reducible assumption))|(apply OKx_lenO;(conv=>lhs;whnf)<;>exact rfl;(first | exact at0|exact at1|exact at2|exact at3|exact at4|exact at5|exact at6|exact at7))|(apply OKx_lss;exact rfl;exact rfl;all_goals (intro _; try (exfalso;omega)))|(apply OKx_geq;exact rfl;exact rfl;all_goals (intro _; try (exfalso;omega)))|(apply OKx_eql;exact rfl;exact rfl;all_goals (intro _; try (exfalso;omega)))|(apply OKx_idxO;exact rfl;exact rfl;omega)|(apply OKx_idxR;(conv=>lhs;whnf)<;>exact rfl;(with_reducible assumption);exact rfl;omega;intro _ _)|(apply OKx_idxOz;exact rfl;exact rfl;omega;omega)|(apply OKx_idxRz;(conv=>lhs;whnf)<;>exact rfl;(with_reducible assumption);exact rfl;omega;omega;intro _ _)|(apply OKx_inc;exact rfl;exact rfl;omega)|(apply OKx_addN;exact rfl;exact rfl;omega)|(apply OKx_add;exact rfl;exact rfl;omega;omega)|(apply OKx_notT;exact rfl)|(apply OKx_notF;exact rfl)|(apply OKx_stI;exact rfl;exact rfl;(first | exact at0|exact at1|exact at2|exact at3|exact at4|exact at5|exact at6|exact at7);omega;exact rfl)|(apply OKx_stB;exact rfl;(conv=>lhs;whnf)<;>exact rfl;exact rfl;exact rfl;(first | exact at0|exact at1|exact at2|exact at3|exact at4|exact at5|exact at6|exact at7);exact rfl;exact rfl;exact rfl))
      refine OK_loop1 28 [7, 9, 28, 29, 30, 31, 32, 33, 34, 35, 36, 37, 38, 39, 40, 41] (fun m' v L => ∃ (q : Nat) (o' : List Int) (J' : List Res), q + m' = m ∧ v = .int .i64 (q : Int) ∧ o'.length = N ∧ o'.take i = o.take i ∧ (∀ j, i < j → 0 ≤ st.getD j 0 → o'.getD j 0 = st.getD j 0) ∧ JP (pre ++ part vs st o i q) J' ∧
        L = rA (.slice (some ⟨go2, 0, none⟩) N co2) N o' :: (zA y m g c g1 gy go gf gv sv (.slice (some ⟨go2, 0, none⟩) N co2) vs ++ (J' ++ Br))) m _ (Ent.refl _ _) ⟨0, o, J, by omega, rfl, ho, rfl, fun j hj => hkn j (by omega), by unfold part; simpa using hJ, rfl⟩ ?_
      rintro m' v L G ⟨q, o', J', hq, rfl, ho', ht, hkn', hJ', rfl⟩
      simp only [rA]
      simp only [zA, List.cons_append, List.nil_append]
      by_cases hqm : q < m
      · have hpp := part_step vs st o i q (by omega)
        have hws := fun x => whl_set vs st o o' i x (by omega) ht
        have hpre' : pre ++ part vs st o i q ++ tail1 vs st o i (vs.getD q 0) <+: all := by
          rw [List.append_assoc, ← hpp]
          refine List.IsPrefix.trans ?_ hpre
          rw [← hpe]
          exact (List.prefix_append_right_inj pre).2 (part_pre vs st o i (q + 1))
        repeat' (first|(apply OK_seq)|(apply thenQ_n)|(apply OK_region)|(apply OKx_gc 64;exact rfl; refine OKx_callL (f := 64) rfl rfl (ihp (o'.set i (vs.getD q 0)) (pre ++ part vs st o i q) J' (by omega) (by simpa using ho') (fun j hj hk => by rw [← hkn' j (by omega) hk]; simp only [List.getD_eq_getElem?_getD]; rw [List.getElem?_set_ne (by omega)]) hJ' (by rw [hws]; exact hpre')) ?_; rintro _ _ (⟨rfl, o2, J2, h1, h2, h3, h4, rfl⟩ | ⟨rfl, cc, o2, J2, h1, h2, rfl⟩))|(apply OKx_nilK)|(apply OK_block)|(apply blockQ_n)|(apply blockQ_s)|(apply thenQ_e)|(apply blockQ_e;exact rfl)|(apply thenQ_r)|(apply blockQ_r)|(apply OK_condT;exact rfl)|(apply OK_condF;exact rfl)|(apply OK_skip)|(apply OK_exit)|(apply OK_ret)|(apply OKx_move;(conv=>lhs;whnf)<;>exact rfl)|(apply OKx_assign;(conv=>lhs;whnf)<;>exact rfl)|(apply OKx_ldB;exact rfl;(first | exact at0|exact at1|exact at2|exact at3|exact at4|exact at5|exact at6|exact at7);exact rfl)|(apply OKx_ldR;(conv=>lhs;whnf)<;>exact rfl;(with_reducible assumption))|(apply OKx_ldI;exact rfl;(first | exact at0|exact at1|exact at2|exact at3|exact at4|exact at5|exact at6|exact at7);omega)|(apply OKx_len;exact rfl)|(apply OKx_lenR;(conv=>lhs;whnf)<;>exact rfl;(with_reducible assumption))|(apply OKx_lenR2;(conv=>lhs;whnf)<;>exact rfl;(with_reducible assumption))|(apply OKx_lenO;(conv=>lhs;whnf)<;>exact rfl;(first | exact at0|exact at1|exact at2|exact at3|exact at4|exact at5|exact at6|exact at7))|(apply OKx_lss;exact rfl;exact rfl;all_goals (intro _; try (exfalso;omega)))|(apply OKx_geq;exact rfl;exact rfl;all_goals (intro _; try (exfalso;omega)))|(apply OKx_eql;exact rfl;exact rfl;all_goals (intro _; try (exfalso;omega)))|(apply OKx_idxO;exact rfl;exact rfl;omega)|(apply OKx_idxR;(conv=>lhs;whnf)<;>exact rfl;(with_reducible assumption);exact rfl;omega;intro _ _)|(apply OKx_idxOz;exact rfl;exact rfl;omega;omega)|(apply OKx_idxRz;(conv=>lhs;whnf)<;>exact rfl;(with_reducible assumption);exact rfl;omega;omega;intro _ _)|(apply OKx_inc;exact rfl;exact rfl;omega)|(apply OKx_addN;exact rfl;exact rfl;omega)|(apply OKx_add;exact rfl;exact rfl;omega;omega)|(apply OKx_notT;exact rfl)|(apply OKx_notF;exact rfl)|(apply OKx_stI;exact rfl;exact rfl;(first | exact at0|exact at1|exact at2|exact at3|exact at4|exact at5|exact at6|exact at7);omega;exact rfl)|(apply OKx_stB;exact rfl;(conv=>lhs;whnf)<;>exact rfl;exact rfl;exact rfl;(first | exact at0|exact at1|exact at2|exact at3|exact at4|exact at5|exact at6|exact at7);exact rfl;exact rfl;exact rfl))
        · refine ⟨by (repeat' (first | refine agree_upd rfl ?_ | exact agree_over | exact agree_refl _ _ | refine agree_over2 rfl ?_)), m' - 1, _, by omega, Ent.refl _ _, ?_⟩
          refine ⟨q + 1, o2, J2, by omega, rfl, h1, ?_, fun j hj hk => h3 j (by omega) hk, ?_, rfl⟩
          · have e := congrArg (List.take i) h2
            rw [List.take_take, List.take_take, Nat.min_eq_left (by omega), List.take_set_of_le (Nat.le_refl i)] at e
            rw [e, ht]
          · rw [hws, List.append_assoc, ← hpp] at h4
            exact h4
        · refine bodyQ_r1 (by ((conv=>lhs;whnf)<;>exact rfl)) ?_
          subst hZ
          exact ⟨_, Ent.refl _ _, .inr ⟨rfl, cc, o2, J2, h1, h2, rfl⟩⟩
      · obtain rfl : q = m := by omega
        repeat' (first|(apply OK_seq)|(apply thenQ_n)|(apply OK_region)|(apply OKx_nilK)|(apply OK_block)|(apply blockQ_n)|(apply blockQ_s)|(apply thenQ_e)|(apply blockQ_e;exact rfl)|(apply thenQ_r)|(apply blockQ_r)|(apply OK_condT;exact rfl)|(apply OK_condF;exact rfl)|(apply OK_skip)|(apply OK_exit)|(apply OK_ret)|(apply OKx_move;(conv=>lhs;whnf)<;>exact rfl)|(apply OKx_assign;(conv=>lhs;whnf)<;>exact rfl)|(apply OKx_ldB;exact rfl;(first | exact at0|exact at1|exact at2|exact at3|exact at4|exact at5|exact at6|exact at7);exact rfl)|(apply OKx_ldR;(conv=>lhs;whnf)<;>exact rfl;(with_reducible assumption))|(apply OKx_ldI;exact rfl;(first | exact at0|exact at1|exact at2|exact at3|exact at4|exact at5|exact at6|exact at7);omega)|(apply OKx_len;exact rfl)|(apply OKx_lenR;(conv=>lhs;whnf)<;>exact rfl;(with_reducible assumption))|(apply OKx_lenR2;(conv=>lhs;whnf)<;>exact rfl;(with_reducible assumption))|(apply OKx_lenO;(conv=>lhs;whnf)<;>exact rfl;(first | exact at0|exact at1|exact at2|exact at3|exact at4|exact at5|exact at6|exact at7))|(apply OKx_lss;exact rfl;exact rfl;all_goals (intro _; try (exfalso;omega)))|(apply OKx_geq;exact rfl;exact rfl;all_goals (intro _; try (exfalso;omega)))|(apply OKx_eql;exact rfl;exact rfl;all_goals (intro _; try (exfalso;omega)))|(apply OKx_idxO;exact rfl;exact rfl;omega)|(apply OKx_idxR;(conv=>lhs;whnf)<;>exact rfl;(with_reducible assumption);exact rfl;omega;intro _ _)|(apply OKx_idxOz;exact rfl;exact rfl;omega;omega)|(apply OKx_idxRz;(conv=>lhs;whnf)<;>exact rfl;(with_reducible assumption);exact rfl;omega;omega;intro _ _)|(apply OKx_inc;exact rfl;exact rfl;omega)|(apply OKx_addN;exact rfl;exact rfl;omega)|(apply OKx_add;exact rfl;exact rfl;omega;omega)|(apply OKx_notT;exact rfl)|(apply OKx_notF;exact rfl)|(apply OKx_stI;exact rfl;exact rfl;(first | exact at0|exact at1|exact at2|exact at3|exact at4|exact at5|exact at6|exact at7);omega;exact rfl)|(apply OKx_stB;exact rfl;(conv=>lhs;whnf)<;>exact rfl;exact rfl;exact rfl;(first | exact at0|exact at1|exact at2|exact at3|exact at4|exact at5|exact at6|exact at7);exact rfl;exact rfl;exact rfl))
        refine bodyQ_r1 (by ((conv=>lhs;whnf)<;>exact rfl)) ?_
        subst hZ
        rw [← hm] at hJ'
        rw [hpe] at hJ'
        refine ⟨_, Ent.refl _ _, .inl ⟨rfl, o', J', ho', ht, fun j hj hk => ?_, hJ', rfl⟩⟩
        rcases Nat.lt_or_ge i j with h | h
        · exact hkn' j h hk
        · obtain rfl : j = i := by omega
          omega
    · have hp := whl_pos vs st o i (by omega) (by omega) (by omega) (hkn i (Nat.le_refl i) (by omega))
      simp only [zA, List.cons_append, List.nil_append]
      subst hoe
      refine SatL.of 42 [7] Tryd.func64 (by kernel_rfl) (by kernel_rfl) rfl rfl rfl rfl ?_
      repeat' (first|(apply OK_seq)|(apply thenQ_n)|(apply OK_region)|(apply OKx_gc 64;exact rfl; refine OKx_callL (f := 64) rfl rfl (ihp o pre J (by omega) ho (fun j hj hk => hkn j (by omega) hk) hJ (by rw [← hp]; exact hpre)) ?_; rintro _ _ (⟨rfl, o2, J2, h1, h2, h3, h4, rfl⟩ | ⟨rfl, cc, o2, J2, h1, h2, rfl⟩))|(apply OKx_nilK)|(apply OK_block)|(apply blockQ_n)|(apply blockQ_s)|(apply thenQ_e)|(apply blockQ_e;exact rfl)|(apply thenQ_r)|(apply blockQ_r)|(apply OK_condT;exact rfl)|(apply OK_condF;exact rfl)|(apply OK_skip)|(apply OK_exit)|(apply OK_ret)|(apply OKx_move;(conv=>lhs;whnf)<;>exact rfl)|(apply OKx_assign;(conv=>lhs;whnf)<;>exact rfl)|(apply OKx_ldB;exact rfl;(first | exact at0|exact at1|exact at2|exact at3|exact at4|exact at5|exact at6|exact at7);exact rfl)|(apply OKx_ldR;(conv=>lhs;whnf)<;>exact rfl;(with_reducible assumption))|(apply OKx_ldI;exact rfl;(first | exact at0|exact at1|exact at2|exact at3|exact at4|exact at5|exact at6|exact at7);omega)|(apply OKx_len;exact rfl)|(apply OKx_lenR;(conv=>lhs;whnf)<;>exact rfl;(with_reducible assumption))|(apply OKx_lenR2;(conv=>lhs;whnf)<;>exact rfl;(with_reducible assumption))|(apply OKx_lenO;(conv=>lhs;whnf)<;>exact rfl;(first | exact at0|exact at1|exact at2|exact at3|exact at4|exact at5|exact at6|exact at7))|(apply OKx_lss;exact rfl;exact rfl;all_goals (intro _; try (exfalso;omega)))|(apply OKx_geq;exact rfl;exact rfl;all_goals (intro _; try (exfalso;omega)))|(apply OKx_eql;exact rfl;exact rfl;all_goals (intro _; try (exfalso;omega)))|(apply OKx_idxO;exact rfl;exact rfl;omega)|(apply OKx_idxR;(conv=>lhs;whnf)<;>exact rfl;(with_reducible assumption);exact rfl;omega;intro _ _)|(apply OKx_idxOz;exact rfl;exact rfl;omega;omega)|(apply OKx_idxRz;(conv=>lhs;whnf)<;>exact rfl;(with_reducible assumption);exact rfl;omega;omega;intro _ _)|(apply OKx_inc;exact rfl;exact rfl;omega)|(apply OKx_addN;exact rfl;exact rfl;omega)|(apply OKx_add;exact rfl;exact rfl;omega;omega)|(apply OKx_notT;exact rfl)|(apply OKx_notF;exact rfl)|(apply OKx_stI;exact rfl;exact rfl;(first | exact at0|exact at1|exact at2|exact at3|exact at4|exact at5|exact at6|exact at7);omega;exact rfl)|(apply OKx_stB;exact rfl;(conv=>lhs;whnf)<;>exact rfl;exact rfl;exact rfl;(first | exact at0|exact at1|exact at2|exact at3|exact at4|exact at5|exact at6|exact at7);exact rfl;exact rfl;exact rfl))
      · refine bodyQ_r1 (by ((conv=>lhs;whnf)<;>exact rfl)) ?_
        subst hZ
        rw [← hp] at h4
        refine ⟨_, Ent.refl _ _, .inl ⟨rfl, o2, J2, h1, ?_, fun j hj hk => ?_, h4, rfl⟩⟩
        · have e := congrArg (List.take i) h2
          rwa [List.take_take, List.take_take, Nat.min_eq_left (by omega)] at e
        · rcases Nat.lt_or_ge i j with h | h
          · exact h3 j h hk
          · obtain rfl : j = i := by omega
            have e := congrArg (fun l => l.getD j 0) h2
            simp only [List.getD_eq_getElem?_getD] at e
            rw [List.getElem?_take_of_lt (by omega), List.getElem?_take_of_lt (by omega)] at e
            have := hkn j (Nat.le_refl j) hk
            simp only [List.getD_eq_getElem?_getD] at this ⊢
            rw [e, this]
      · refine bodyQ_r1 (by ((conv=>lhs;whnf)<;>exact rfl)) ?_
        subst hZ
        exact ⟨_, Ent.refl _ _, .inr ⟨rfl, cc, o2, J2, h1, h2, rfl⟩⟩
end Go.Proofs.YtpknpbeiifjmgaaDoor
