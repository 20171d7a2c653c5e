/-
  Part 19 of the proof: Cc36. No statement of the seat is proved here.
-/
import Derived.Test.YtpfemholpigdeaaDoorMHEx3618
import Derived.Shelf.Spec.SlicesGrow
namespace Go.Proofs.YtpfemholpigdeaaDoor
open Go.RowKit
def renG : Go.Shelf.Ren := ⟨fun | 4 => 59 | n => n,
  fun | 0 => 0 | 3 => 3 | 4 => 4 | 9 => 9 | 20 => 20 | 22 => 38 | 25 => 3 | n => n, fun | n => n⟩
theorem laysG : Go.Proofs.Lays8.n4 Tryd.prog renG := {
  mixed := by kernel_rfl
  f4 := ⟨Tryd.f59.name, by kernel_rfl, Tryd.func59.trans (congrArg some (by kernel_rfl))⟩
  t0 := Tryd.underlying0
  a0 := Tryd.isAgg0
  z0 := Tryd.sizeOf0
  v0 := Tryd.zeroValue0
  t3 := Tryd.underlying3
  a3 := Tryd.isAgg3
  z3 := Tryd.sizeOf3
  v3 := Tryd.zeroValue3
  t4 := Tryd.underlying4
  a4 := Tryd.isAgg4
  z4 := Tryd.sizeOf4
  v4 := Tryd.zeroValue4
  t9 := Tryd.underlying9
  a9 := Tryd.isAgg9
  z9 := Tryd.sizeOf9
  v9 := Tryd.zeroValue9
  t20 := Tryd.underlying20
  a20 := Tryd.isAgg20
  z20 := Tryd.sizeOf20
  v20 := Tryd.zeroValue20
  t22 := Tryd.underlying38
  a22 := Tryd.isAgg38
  z22 := Tryd.sizeOf38
  v22 := Tryd.zeroValue38 }
set_option maxRecDepth 100000 in
set_option maxHeartbeats 4000000 in
theorem grow_int_sat (n : Nat) (w0 : World) (h0 : 0 < n) (h8 : n ≤ 1000000) : Sat Tryd.prog 59 [.slice none 0 0, .int .i64 (n : Int)] w0 (fun u L => ∃ g c, u = .slice (some ⟨g, 0, none⟩) 0 c ∧ L = [.row 3 1 u 0 []]) := by
  refine ⟨⟨_, _, Tryd.func59, by kernel_rfl, rfl⟩, fun w hp => ?_⟩
  obtain ⟨i0, hi0, hz0, hz1, hz2⟩ := info_parts (inferInstance : TSlice Tryd.prog 38 3 _ _ _).ty.inf
  refine (Any8.slices_Grow_grow laysG i0 _ hi0 hz0 (by omega) none 0 0 n [] w (by omega) (by omega) (by rw [hz2];omega) (by omega) (by rw [List.length_nil, Nat.zero_mul]) (fun _ => rfl) (fun a ha => by cases ha)).mono ?_
  rintro e w' ⟨rfl, rfl⟩
  have hg := grownCap_ge w (0 + n) 0 3
  have hm := grownCap_le_maxLen w (0 + n) 0 3 (by unfold maxLen;omega)
  refine ⟨_, _, rfl, ?_, ⟨_, _, rfl, rfl⟩⟩
  have hgs : (Value.int .i64 0).cells.size = 1 := rfl
  obtain ⟨G, hG⟩ : ∃ G, G = grownCap w (0 + n) 0 3 := ⟨_, rfl⟩
  rw [← hG] at hg hm
  rw [show grownCap w (0 + n) 0 (renG.t 25) = G from hG.symm, show renG.t 25 = 3 from rfl]
  refine hp.drew.fresh (w' := w.drew.alloc (.cells (([] : List Value).toArray ++ Builtin.zeroCells (Value.int .i64 0).cells (0 + n - 0) ++ Builtin.zeroCells (Value.int .i64 0).cells (G - (0 + n))) 3)) (r := .row 3 1 (.slice (some ⟨w.heap.size, 0, none⟩) 0 G) 0 []) (show World.ownsRow _ _ _ _ _ _ _ from ⟨rfl, .inr ⟨w.heap.size, G, ([] : List Value).toArray ++ Builtin.zeroCells (Value.int .i64 0).cells (0 + n - 0) ++ Builtin.zeroCells (Value.int .i64 0).cells (G - (0 + n)), rfl, hp.base, ?_, Nat.zero_le _, hm, ?_, rfl⟩⟩) ?_ ?_
  · have e : w.drew.heap.size = w.heap.size := rfl
    rw [← e]
    exact heap_alloc_new _ _
  · rw [Array.size_append, Array.size_append, size_zeroCells, size_zeroCells, hgs]
    simp
    omega
  · exact (Below.refl _ _).alloc (Nat.le_refl _) _
  · intro k hk
    simp [Res.blk, Value.ownBlock] at hk
    have e : w.drew.heap.size = w.heap.size := rfl
    omega
theorem flat_step (xss : List (List Int)) (k : Nat) (h : k < xss.length) : (xss.take (k + 1)).flatten = (xss.take k).flatten ++ xss.getD k [] := by
  rw [List.take_succ_eq_append_getElem h, List.flatten_append, getD_lt _ _ _ h]
  simp
set_option maxRecDepth 100000 in
set_option maxHeartbeats 4000000 in
theorem concat_int_sat (v : Value) (xss : List (List Int)) (w : World) (h : Tabs w v xss) (h0 : 0 < xss.flatten.length) (hn : xss.length ≤ 64) (hb : ∀ k, k ≤ xss.length → (xss.take k).flatten.length ≤ 4096) (hb1 : ∀ k, (xss.getD k []).length ≤ 4096) :
    Sat Tryd.prog 27 [v] w (fun u L => ∃ g n c, n = xss.flatten.length ∧ u = .slice (some ⟨g, 0, none⟩) n c ∧ L = [.row 3 1 u n (ints xss.flatten)]) := by
  obtain ⟨fv, hpv, hrow⟩ := h.rows
  have hpb := hpv.bound
  have hstep := flat_step xss
  have hall : (xss.take xss.length).flatten = xss.flatten := by rw [List.take_length]
  have hb4 := hb xss.length (Nat.le_refl _)
  rw [hall] at hb4
  refine SatL.of 36 [2] Tryd.func27 (by kernel_rfl) (by kernel_rfl) rfl rfl rfl rfl ?_
  repeat' (first|(apply OK_seq)|(apply thenQ_n)|(apply OK_region)|(apply OKx_nilK)|(apply OK_block)|(apply blockQ_n)|(apply blockQ_s)|(apply thenQ_e)|(apply blockQ_e;exact rfl)|(apply thenQ_r)|(apply blockQ_r)|(apply OK_condT;exact rfl)|(apply OK_condF;exact rfl)|(apply OK_skip)|(apply OK_exit)|(apply OK_ret)|(apply OKx_move;(conv=>lhs;whnf)<;>exact rfl)|(apply OKx_assign;(conv=>lhs;whnf)<;>exact rfl)|(apply OKx_ldB;exact rfl;(first | exact at0|exact at1|exact at2|exact at3|exact at4|exact at5|exact at6|exact at7);exact rfl)|(apply OKx_ldR;(conv=>lhs;whnf)<;>exact rfl;(with_reducible assumption))|(apply OKx_len;exact rfl)|(apply OKx_lenR;(conv=>lhs;whnf)<;>exact rfl;(with_reducible assumption))|(apply OKx_lenR2;(conv=>lhs;whnf)<;>exact rfl;(with_reducible assumption))|(apply OKx_lenO;(conv=>lhs;whnf)<;>exact rfl;(first | exact at0|exact at1|exact at2|exact at3|exact at4|exact at5|exact at6|exact at7))|(apply OKx_lss;exact rfl;exact rfl;all_goals (intro _; try (exfalso;omega)))|(apply OKx_idxO;exact rfl;exact rfl;omega)|(apply OKx_idxR;(conv=>lhs;whnf)<;>exact rfl;(with_reducible assumption);exact rfl;omega;intro _ _)|(apply OKx_idxOz;exact rfl;exact rfl;omega;omega)|(apply OKx_idxRz;(conv=>lhs;whnf)<;>exact rfl;(with_reducible assumption);exact rfl;omega;omega;intro _ _)|(apply OKx_inc;exact rfl;exact rfl;omega)|(apply OKx_addN;exact rfl;exact rfl;omega)|(apply OKx_add;exact rfl;exact rfl;omega;omega))
  refine OK_loop2 3 11 [3, 5, 11, 12, 13, 14, 15, 16, 17, 18, 19, 20, 21, 22] (fun m u v L => ∃ k : Nat, k + m = xss.length ∧ u = .int .i64 ((xss.take k).flatten.length : Nat) ∧ v = .int .i64 (k : Int) ∧ L = []) xss.length _ (Ent.refl _ _) ⟨0, by omega, rfl, rfl, rfl⟩ ?_
  rintro m u v' L G ⟨k, hk, rfl, rfl, rfl⟩
  by_cases hkl : k < xss.length
  · have hxk := (hrow k).sl
    have hs := hstep k hkl
    have hbk := hb k (by omega)
    have hbk1 := hb1 k
    repeat' (first|(apply OK_seq)|(apply thenQ_n)|(apply OK_region)|(apply OKx_nilK)|(apply OK_block)|(apply blockQ_n)|(apply blockQ_s)|(apply thenQ_e)|(apply blockQ_e;exact rfl)|(apply thenQ_r)|(apply blockQ_r)|(apply OK_condT;exact rfl)|(apply OK_condF;exact rfl)|(apply OK_skip)|(apply OK_exit)|(apply OK_ret)|(apply OKx_move;(conv=>lhs;whnf)<;>exact rfl)|(apply OKx_assign;(conv=>lhs;whnf)<;>exact rfl)|(apply OKx_ldB;exact rfl;(first | exact at0|exact at1|exact at2|exact at3|exact at4|exact at5|exact at6|exact at7);exact rfl)|(apply OKx_ldR;(conv=>lhs;whnf)<;>exact rfl;(with_reducible assumption))|(apply OKx_len;exact rfl)|(apply OKx_lenR;(conv=>lhs;whnf)<;>exact rfl;(with_reducible assumption))|(apply OKx_lenR2;(conv=>lhs;whnf)<;>exact rfl;(with_reducible assumption))|(apply OKx_lenO;(conv=>lhs;whnf)<;>exact rfl;(first | exact at0|exact at1|exact at2|exact at3|exact at4|exact at5|exact at6|exact at7))|(apply OKx_lss;exact rfl;exact rfl;all_goals (intro _; try (exfalso;omega)))|(apply OKx_idxO;exact rfl;exact rfl;omega)|(apply OKx_idxR;(conv=>lhs;whnf)<;>exact rfl;(with_reducible assumption);exact rfl;omega;intro _ _)|(apply OKx_idxOz;exact rfl;exact rfl;omega;omega)|(apply OKx_idxRz;(conv=>lhs;whnf)<;>exact rfl;(with_reducible assumption);exact rfl;omega;omega;intro _ _)|(apply OKx_inc;exact rfl;exact rfl;omega)|(apply OKx_addN;exact rfl;exact rfl;omega)|(apply OKx_add;exact rfl;exact rfl;omega;omega))
    refine ⟨by (repeat' (first | refine agree_upd rfl ?_ | exact agree_over | exact agree_refl _ _ | refine agree_over2 rfl ?_)), m - 1, _, by omega, Ent.refl _ _, ?_⟩
    exact ⟨k + 1, by omega, by rw [hs, List.length_append]; rfl, rfl, rfl⟩
  obtain rfl : k = xss.length := by omega
  rw [hall]
  repeat' (first|(apply OK_seq)|(apply thenQ_n)|(apply OK_region)|(apply OKx_gc 59;exact rfl; refine OKx_call (f := 59) rfl rfl (fun w1 hp => grow_int_sat xss.flatten.length w1 h0 (by omega)) ?_; rintro _ _ ⟨gn, cn, rfl, rfl⟩; rw [List.cons_append, List.nil_append])|(apply OKx_nilK)|(apply OK_block)|(apply blockQ_n)|(apply blockQ_s)|(apply thenQ_e)|(apply blockQ_e;exact rfl)|(apply thenQ_r)|(apply blockQ_r)|(apply OK_condT;exact rfl)|(apply OK_condF;exact rfl)|(apply OK_skip)|(apply OK_exit)|(apply OK_ret)|(apply OKx_move;(conv=>lhs;whnf)<;>exact rfl)|(apply OKx_assign;(conv=>lhs;whnf)<;>exact rfl)|(apply OKx_ldB;exact rfl;(first | exact at0|exact at1|exact at2|exact at3|exact at4|exact at5|exact at6|exact at7);exact rfl)|(apply OKx_ldR;(conv=>lhs;whnf)<;>exact rfl;(with_reducible assumption))|(apply OKx_len;exact rfl)|(apply OKx_lenR;(conv=>lhs;whnf)<;>exact rfl;(with_reducible assumption))|(apply OKx_lenR2;(conv=>lhs;whnf)<;>exact rfl;(with_reducible assumption))|(apply OKx_lenO;(conv=>lhs;whnf)<;>exact rfl;(first | exact at0|exact at1|exact at2|exact at3|exact at4|exact at5|exact at6|exact at7))|(apply OKx_lss;exact rfl;exact rfl;all_goals (intro _; try (exfalso;omega)))|(apply OKx_idxO;exact rfl;exact rfl;omega)|(apply OKx_idxR;(conv=>lhs;whnf)<;>exact rfl;(with_reducible assumption);exact rfl;omega;intro _ _)|(apply OKx_idxOz;exact rfl;exact rfl;omega;omega)|(apply OKx_idxRz;(conv=>lhs;whnf)<;>exact rfl;(with_reducible assumption);exact rfl;omega;omega;intro _ _)|(apply OKx_inc;exact rfl;exact rfl;omega)|(apply OKx_addN;exact rfl;exact rfl;omega)|(apply OKx_add;exact rfl;exact rfl;omega;omega))
  refine OK_loop2 6 27 [6, 8, 27, 28, 29, 30, 31, 32, 33, 34] (fun m u v L => ∃ (k n g c : Nat), k + m = xss.length ∧ n = (xss.take k).flatten.length ∧ u = .slice (some ⟨g, 0, none⟩) n c ∧ v = .int .i64 (k : Int) ∧ L = [.row 3 1 (.slice (some ⟨g, 0, none⟩) n c) n (ints (xss.take k).flatten)]) xss.length _ (Ent.refl _ _) ⟨0, 0, gn, cn, by omega, rfl, rfl, rfl, rfl⟩ ?_
  rintro m2 u v' L G2 ⟨k, n, g, c, hk2, hn2, rfl, rfl, rfl⟩
  by_cases hkl2 : k < xss.length
  · have hxk := (hrow k).sl
    have hs := hstep k hkl2
    have hbk := hb k (by omega)
    have hbk1 := hb1 k
    obtain ⟨ea, ec, ee, _, hce⟩ := (hrow k).at
    generalize hys : (xss.take k).flatten = ys at *
    generalize hxs : xss.getD k [] = xs at *
    by_cases hz : xs.length = 0
    · have hz1 : xs = [] := List.eq_nil_of_length_eq_zero hz
      repeat' (first|(apply OK_seq)|(apply thenQ_n)|(apply OK_region)|(apply OKx_gb; refine OKx_app0 0 rfl (ee.trans (by rw [hz])) rfl ?_)|(apply OKx_nilK)|(apply OK_block)|(apply blockQ_n)|(apply blockQ_s)|(apply thenQ_e)|(apply blockQ_e;exact rfl)|(apply thenQ_r)|(apply blockQ_r)|(apply OK_condT;exact rfl)|(apply OK_condF;exact rfl)|(apply OK_skip)|(apply OK_exit)|(apply OK_ret)|(apply OKx_move;(conv=>lhs;whnf)<;>exact rfl)|(apply OKx_assign;(conv=>lhs;whnf)<;>exact rfl)|(apply OKx_ldB;exact rfl;(first | exact at0|exact at1|exact at2|exact at3|exact at4|exact at5|exact at6|exact at7);exact rfl)|(apply OKx_ldR;(conv=>lhs;whnf)<;>exact rfl;(with_reducible assumption))|(apply OKx_len;exact rfl)|(apply OKx_lenR;(conv=>lhs;whnf)<;>exact rfl;(with_reducible assumption))|(apply OKx_lenR2;(conv=>lhs;whnf)<;>exact rfl;(with_reducible assumption))|(apply OKx_lenO;(conv=>lhs;whnf)<;>exact rfl;(first | exact at0|exact at1|exact at2|exact at3|exact at4|exact at5|exact at6|exact at7))|(apply OKx_lss;exact rfl;exact rfl;all_goals (intro _; try (exfalso;omega)))|(apply OKx_idxO;exact rfl;exact rfl;omega)|(apply OKx_idxR;(conv=>lhs;whnf)<;>exact rfl;(with_reducible assumption);exact rfl;omega;intro _ _)|(apply OKx_idxOz;exact rfl;exact rfl;omega;omega)|(apply OKx_idxRz;(conv=>lhs;whnf)<;>exact rfl;(with_reducible assumption);exact rfl;omega;omega;intro _ _)|(apply OKx_inc;exact rfl;exact rfl;omega)|(apply OKx_addN;exact rfl;exact rfl;omega)|(apply OKx_add;exact rfl;exact rfl;omega;omega))
      refine ⟨by (repeat' (first | refine agree_upd rfl ?_ | exact agree_over | exact agree_refl _ _ | refine agree_over2 rfl ?_)), m2 - 1, _, by omega, Ent.refl _ _, ?_⟩
      exact ⟨k + 1, n, g, c, by omega, by rw [hs, hz1, List.append_nil]; exact hn2, rfl, rfl, by rw [hs, hz1, List.append_nil]⟩
    · obtain ⟨eb, eo, rfl, _⟩ := hce 0 (by omega)
      repeat' (first|(apply OK_seq)|(apply thenQ_n)|(apply OK_region)|(apply OKx_gb; refine OKx_append 0 (M := xs.length) (ys := ints xs) rfl ee rfl (by simp [ints]) (fun w1 hp j u hj => ?_) (fun u hu => by obtain ⟨x, _, rfl⟩ := List.mem_map.1 hu; rfl) (by omega) (by omega) (by omega) ?_; rotate_left; intro g4 c4)|(apply OKx_nilK)|(apply OK_block)|(apply blockQ_n)|(apply blockQ_s)|(apply thenQ_e)|(apply blockQ_e;exact rfl)|(apply thenQ_r)|(apply blockQ_r)|(apply OK_condT;exact rfl)|(apply OK_condF;exact rfl)|(apply OK_skip)|(apply OK_exit)|(apply OK_ret)|(apply OKx_move;(conv=>lhs;whnf)<;>exact rfl)|(apply OKx_assign;(conv=>lhs;whnf)<;>exact rfl)|(apply OKx_ldB;exact rfl;(first | exact at0|exact at1|exact at2|exact at3|exact at4|exact at5|exact at6|exact at7);exact rfl)|(apply OKx_ldR;(conv=>lhs;whnf)<;>exact rfl;(with_reducible assumption))|(apply OKx_len;exact rfl)|(apply OKx_lenR;(conv=>lhs;whnf)<;>exact rfl;(with_reducible assumption))|(apply OKx_lenR2;(conv=>lhs;whnf)<;>exact rfl;(with_reducible assumption))|(apply OKx_lenO;(conv=>lhs;whnf)<;>exact rfl;(first | exact at0|exact at1|exact at2|exact at3|exact at4|exact at5|exact at6|exact at7))|(apply OKx_lss;exact rfl;exact rfl;all_goals (intro _; try (exfalso;omega)))|(apply OKx_idxO;exact rfl;exact rfl;omega)|(apply OKx_idxR;(conv=>lhs;whnf)<;>exact rfl;(with_reducible assumption);exact rfl;omega;intro _ _)|(apply OKx_idxOz;exact rfl;exact rfl;omega;omega)|(apply OKx_idxRz;(conv=>lhs;whnf)<;>exact rfl;(with_reducible assumption);exact rfl;omega;omega;intro _ _)|(apply OKx_inc;exact rfl;exact rfl;omega)|(apply OKx_addN;exact rfl;exact rfl;omega)|(apply OKx_add;exact rfl;exact rfl;omega;omega))
      · refine ⟨by (repeat' (first | refine agree_upd rfl ?_ | exact agree_over | exact agree_refl _ _ | refine agree_over2 rfl ?_)), m2 - 1, _, by omega, Ent.refl _ _, ?_⟩
        exact ⟨k + 1, n + xs.length, g4, c4, by omega, by rw [hs, List.length_append, hn2], rfl, rfl, by rw [hs]; simp [ints]⟩
      · have hj2 : j < xs.length := by have := (List.getElem?_eq_some_iff.1 hj).1; simpa [ints] using this
        obtain ⟨b', o', e', h'⟩ := hce j hj2
        cases e'
        rw [hp.below.cell (World.block_lt_of_cell? w _ h'), h', ← hj]
        simp [ints, hj2]
  obtain rfl : k = xss.length := by omega
  repeat' (first|(apply OK_seq)|(apply thenQ_n)|(apply OK_region)|(apply OKx_nilK)|(apply OK_block)|(apply blockQ_n)|(apply blockQ_s)|(apply thenQ_e)|(apply blockQ_e;exact rfl)|(apply thenQ_r)|(apply blockQ_r)|(apply OK_condT;exact rfl)|(apply OK_condF;exact rfl)|(apply OK_skip)|(apply OK_exit)|(apply OK_ret)|(apply OKx_move;(conv=>lhs;whnf)<;>exact rfl)|(apply OKx_assign;(conv=>lhs;whnf)<;>exact rfl)|(apply OKx_ldB;exact rfl;(first | exact at0|exact at1|exact at2|exact at3|exact at4|exact at5|exact at6|exact at7);exact rfl)|(apply OKx_ldR;(conv=>lhs;whnf)<;>exact rfl;(with_reducible assumption))|(apply OKx_len;exact rfl)|(apply OKx_lenR;(conv=>lhs;whnf)<;>exact rfl;(with_reducible assumption))|(apply OKx_lenR2;(conv=>lhs;whnf)<;>exact rfl;(with_reducible assumption))|(apply OKx_lenO;(conv=>lhs;whnf)<;>exact rfl;(first | exact at0|exact at1|exact at2|exact at3|exact at4|exact at5|exact at6|exact at7))|(apply OKx_lss;exact rfl;exact rfl;all_goals (intro _; try (exfalso;omega)))|(apply OKx_idxO;exact rfl;exact rfl;omega)|(apply OKx_idxR;(conv=>lhs;whnf)<;>exact rfl;(with_reducible assumption);exact rfl;omega;intro _ _)|(apply OKx_idxOz;exact rfl;exact rfl;omega;omega)|(apply OKx_idxRz;(conv=>lhs;whnf)<;>exact rfl;(with_reducible assumption);exact rfl;omega;omega;intro _ _)|(apply OKx_inc;exact rfl;exact rfl;omega)|(apply OKx_addN;exact rfl;exact rfl;omega)|(apply OKx_add;exact rfl;exact rfl;omega;omega))
  refine bodyQ_r1 (by ((conv=>lhs;whnf)<;>exact rfl)) ?_
  exact ⟨_, Ent.refl _ _, g, n, c, by rw [hn2, hall], rfl, by rw [hall]⟩
set_option maxRecDepth 100000 in
set_option maxHeartbeats 4000000 in
theorem concat2_sat (v : Value) (xs ys : List Int) (w : World) (h : Tabs w v [xs, ys]) (h0 : 0 < xs.length + ys.length) (hb : xs.length + ys.length ≤ 4096) :
    Sat Tryd.prog 27 [v] w (fun u L => ∃ g n c, n = (xs ++ ys).length ∧ u = .slice (some ⟨g, 0, none⟩) n c ∧ L = [.row 3 1 u n (ints (xs ++ ys))]) := by
  have e : [xs, ys].flatten = xs ++ ys := by simp
  have := concat_int_sat v [xs, ys] w h (by rw [e, List.length_append]; exact h0) (by simp) (fun k hk => ?_) (fun k => ?_)
  · rw [e] at this
    exact this
  · match k, hk with
    | 0, _ => simp
    | 1, _ => simp;omega
    | 2, _ => simp;omega
    | k + 3, hk => simp at hk
  · match k with
    | 0 => simp;omega
    | 1 => simp;omega
    | k + 2 => simp
end Go.Proofs.YtpfemholpigdeaaDoor
