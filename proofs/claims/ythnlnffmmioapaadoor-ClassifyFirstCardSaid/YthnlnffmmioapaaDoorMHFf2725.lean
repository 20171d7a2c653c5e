/-
  Part 25 of the proof: Cn27. No statement of the seat is proved here.
-/
import Derived.Test.YthnlnffmmioapaaDoorMHFf2724
import Derived.Shelf.Spec.SlicesGrow
namespace Go.Proofs.YthnlnffmmioapaaDoor
open Go.RowKit
theorem OKx_cap27 {P : Program} {n : Nat} {w0 : World} {K : Fm → List Res → Prop} {F : Fm} {L : List Res} {m : Md} {ops : Array Oper} {rest : List Oper} {d : Option Nat} {ty : TypeId} {pos : String} {aft : Array Edge} {x : Operand} {t e sz bytes : Nat} {z : Value} [T : TSlice P t e sz bytes z] {a : Option Addr} {len cap : Nat} (hx : rv n F x = .slice a len cap)
    (kk : OKx P n w0 m ops K rest (updo F d (.int .i64 (cap : Int))) L) : OKx P n w0 m ops K (⟨d, .call { callee := .builtin .cap, args := #[x], argTypes := #[t] }, ty, pos, aft, none⟩ :: rest) F L :=
  OKx_still (fun w _ _ _ _ _ => by
    have hu : (underlying t).run P w = .ok (.slice e) w := by simp [underlying, program, Sem.run_bind, Sem.run, T.ty.und, Result.andThen]
    simp [execOp, resolve, invoke, builtin, Builtin.cap_, hx, hu, goInt, Sem.run_bind, Result.andThen]) kk
def renR : Go.Shelf.Ren := ⟨fun | 4 => 47 | n => n,
  fun | 0 => 0 | 3 => 3 | 4 => 4 | 9 => 9 | 20 => 20 | 22 => 41 | 25 => 57 | n => n, fun | n => n⟩
theorem laysR : Go.Proofs.Lays8.n4 Tryd.prog renR := {
  mixed := by kernel_rfl
  f4 := ⟨Tryd.f47.name, by kernel_rfl, Tryd.func47.trans (congrArg some (by kernel_rfl))⟩
  t0 := Tryd.underlying0
  a0 := Tryd.isAgg0
  z0 := Tryd.sizeOf0
  v0 := Tryd.zeroValue0
  t3 := Tryd.underlying3
  a3 := Tryd.isAgg3
  z3 := Tryd.sizeOf3
  v3 := Tryd.zeroValue3
  t4 := Tryd.underlying4
  a4 := Tryd.isAgg4
  z4 := Tryd.sizeOf4
  v4 := Tryd.zeroValue4
  t9 := Tryd.underlying9
  a9 := Tryd.isAgg9
  z9 := Tryd.sizeOf9
  v9 := Tryd.zeroValue9
  t20 := Tryd.underlying20
  a20 := Tryd.isAgg20
  z20 := Tryd.sizeOf20
  v20 := Tryd.zeroValue20
  t22 := Tryd.underlying41
  a22 := Tryd.isAgg41
  z22 := Tryd.sizeOf41
  v22 := Tryd.zeroValue41 }
set_option maxRecDepth 100000 in
set_option maxHeartbeats 4000000 in
theorem growR_sat (n : Nat) (w0 : World) (h8 : n ≤ 1000) : Sat Tryd.prog 47 [.slice none 0 0, .int .i64 (n : Int)] w0 (fun u L => ∃ a c, u = .slice a 0 c ∧ L = [.row 57 5 u 0 []]) := by
  by_cases h0 : n = 0
  · subst h0
    refine SatL.of 27 [4] Tryd.func47 (by kernel_rfl) (by kernel_rfl) rfl rfl rfl rfl ?_
    repeat' (first|(apply OK_seq)|(apply thenQ_n)|(apply OK_region)|(refine OKx_cap27 rfl ?_)|(apply OKx_nilK)|(apply OK_block)|(apply blockQ_n)|(apply blockQ_s)|(apply thenQ_e)|(apply blockQ_e;exact rfl)|(apply thenQ_r)|(apply blockQ_r)|(apply OK_condT;exact rfl)|(apply OK_condF;exact rfl)|(apply OK_skip)|(apply OK_exit)|(apply OK_ret)|(apply OKx_move;(conv=>lhs;whnf)<;>exact rfl)|(apply OKx_assign;(conv=>lhs;whnf)<;>exact rfl)|(apply OKx_len;exact rfl)|(apply OKx_lenR;(conv=>lhs;whnf)<;>exact rfl;(with_reducible assumption))|(apply OKx_lenR2;(conv=>lhs;whnf)<;>exact rfl;(with_reducible assumption))|(apply OKx_lenO;(conv=>lhs;whnf)<;>exact rfl;(first | exact at0|exact at1|exact at2|exact at3|exact at4|exact at5|exact at6|exact at7))|(apply OKx_lss;exact rfl;exact rfl;all_goals (intro _; try (exfalso;omega)))|(apply OKx_gtr;exact rfl;exact rfl;all_goals (intro _; try (exfalso;omega)))|(apply OKx_dec;exact rfl;exact rfl;omega;omega)|(apply OKx_subN;exact rfl;exact rfl;omega;omega)|(apply OKx_sub;exact rfl;exact rfl;omega;omega))
    all_goals (try (exfalso;omega))
    refine bodyQ_r1 (by ((conv=>lhs;whnf)<;>exact rfl)) ?_
    exact ⟨_, Ent.mk fun w1 h1 => h1.nil _ _, _, _, rfl, rfl⟩
  refine ⟨⟨_, _, Tryd.func47, by kernel_rfl, rfl⟩, fun w hp => ?_⟩
  obtain ⟨i0, hi0, hz0, hz1, hz2⟩ := info_parts (inferInstance : TSlice Tryd.prog 41 57 _ _ _).ty.inf
  refine (Any8.slices_Grow_grow laysR i0 _ hi0 hz0 (by omega) none 0 0 n [] w (by omega) (by omega) (by rw [hz2];omega) (by omega) (by rw [List.length_nil, Nat.zero_mul]) (fun _ => rfl) (fun a ha => by cases ha)).mono ?_
  rintro e w' ⟨rfl, rfl⟩
  have hg := grownCap_ge w (0 + n) 0 57
  have hm := grownCap_le_maxLen w (0 + n) 0 57 (by unfold maxLen;omega)
  refine ⟨_, _, rfl, ?_, ⟨_, _, rfl, rfl⟩⟩
  obtain ⟨G, hG⟩ : ∃ G, G = grownCap w (0 + n) 0 57 := ⟨_, rfl⟩
  rw [← hG] at hg hm
  rw [show grownCap w (0 + n) 0 (renR.t 25) = G from hG.symm, show renR.t 25 = 57 from rfl]
  have hgs : (Value.agg #[.string ⟨#[]⟩, .int .i64 0, .int .i64 0, .string ⟨#[]⟩, .slice none 0 0]).cells.size = 5 := rfl
  refine hp.drew.fresh (w' := w.drew.alloc (.cells (([] : List Value).toArray ++ Builtin.zeroCells (Value.agg #[.string ⟨#[]⟩, .int .i64 0, .int .i64 0, .string ⟨#[]⟩, .slice none 0 0]).cells (0 + n - 0) ++ Builtin.zeroCells (Value.agg #[.string ⟨#[]⟩, .int .i64 0, .int .i64 0, .string ⟨#[]⟩, .slice none 0 0]).cells (G - (0 + n))) 57)) (r := .row 57 5 (.slice (some ⟨w.heap.size, 0, none⟩) 0 G) 0 []) (show World.ownsRow _ _ _ _ _ _ _ from ⟨rfl, .inr ⟨w.heap.size, G, ([] : List Value).toArray ++ Builtin.zeroCells (Value.agg #[.string ⟨#[]⟩, .int .i64 0, .int .i64 0, .string ⟨#[]⟩, .slice none 0 0]).cells (0 + n - 0) ++ Builtin.zeroCells (Value.agg #[.string ⟨#[]⟩, .int .i64 0, .int .i64 0, .string ⟨#[]⟩, .slice none 0 0]).cells (G - (0 + n)), rfl, hp.base, ?_, Nat.zero_le _, hm, ?_, rfl⟩⟩) ?_ ?_
  · have e : w.drew.heap.size = w.heap.size := rfl
    rw [← e]
    exact heap_alloc_new _ _
  · rw [Array.size_append, Array.size_append, size_zeroCells, size_zeroCells, hgs]
    simp
    omega
  · exact (Below.refl _ _).alloc (Nat.le_refl _) _
  · intro k hk
    simp [Res.blk, Value.ownBlock] at hk
    have e : w.drew.heap.size = w.heap.size := rfl
    omega
def celR (g : Nat → Nat → Value) (n : Nat) : List Value := (List.range (n * 5)).map fun i => g (i / 5) (i % 5)
theorem celR_len (g : Nat → Nat → Value) (n : Nat) : (celR g n).length = n * 5 := by simp [celR]
theorem celR_some (g : Nat → Nat → Value) (n j c : Nat) (hj : j < n) (hc : c < 5) : (celR g n)[j * 5 + c]? = some (g j c) := by
  unfold celR
  rw [List.getElem?_map, List.getElem?_range (by omega), Option.map_some, show (j * 5 + c) / 5 = j by omega, show (j * 5 + c) % 5 = c by omega]
theorem celR_lo (g1 g2 : Nat → Nat → Value) (n1 n2 j c : Nat) (hj : j < n1) (hc : c < 5) : (celR g1 n1 ++ celR g2 n2).getD (j * 5 + c) undef = g1 j c := by
  rw [List.getD_eq_getElem?_getD, List.getElem?_append_left (by rw [celR_len];omega), celR_some g1 n1 j c hj hc]
  rfl
theorem celR_hi (g1 g2 : Nat → Nat → Value) (n1 n2 j c : Nat) (h1 : n1 ≤ j) (hj : j < n1 + n2) (hc : c < 5) : (celR g1 n1 ++ celR g2 n2).getD (j * 5 + c) undef = g2 (j - n1) c := by
  rw [List.getD_eq_getElem?_getD, List.getElem?_append_right (by rw [celR_len];omega), celR_len, show j * 5 + c - n1 * 5 = (j - n1) * 5 + c by omega, celR_some g2 n2 (j - n1) c (by omega) hc]
  rfl
theorem rul_one {w : World} {rs : List Rul} {g : Nat → Nat → Value} (hE : ∀ j, (h : j < rs.length) → RulV w rs[j] (.agg #[g j 0, g j 1, g j 2, g j 3, g j 4])) : ∀ u ∈ celR g rs.length, u.oneCell' = true := fun u hu => by
  obtain ⟨i, hi, rfl⟩ := List.mem_map.1 hu
  rw [List.mem_range] at hi
  have hj : i / 5 < rs.length := by omega
  obtain ⟨aj, cj, hag, _, _⟩ := (hE (i / 5) hj).lit
  have hag2 := Value.agg.inj hag
  simp only [Array.mk.injEq, List.cons.injEq, and_true] at hag2
  obtain ⟨e0, e1, e2, e3, e4⟩ := hag2
  have hc : i % 5 < 5 := Nat.mod_lt _ (by decide)
  match i % 5, hc with
  | 0, _ => rw [e0]; rfl
  | 1, _ => rw [e1]; rfl
  | 2, _ => rw [e2]; rfl
  | 3, _ => rw [e3]; rfl
  | 4, _ => rw [e4]; rfl
theorem celR_cell {w : World} {b off n : Nat} {g : Nat → Nat → Value} (hc : ∀ j, j < n → ∀ c, c < 5 → w.cell? ⟨b, off + j * 5 + c, none⟩ = some (g j c)) : ∀ j u, (celR g n)[j]? = some u → w.cell? ⟨b, off + j, none⟩ = some u := fun j u hu => by
  have hj := (List.getElem?_eq_some_iff.1 hu).1
  rw [celR_len] at hj
  have h := hc (j / 5) (by omega) (j % 5) (Nat.mod_lt _ (by decide))
  have e := celR_some g n (j / 5) (j % 5) (by omega) (Nat.mod_lt _ (by decide))
  rw [show j / 5 * 5 + j % 5 = j by omega, hu] at e
  rw [show off + j / 5 * 5 + j % 5 = off + j by omega] at h
  rw [h, Option.some.inj e]
def sumK (a b : Nat) : Nat → Nat
  | 0 => 0
  | 1 => a
  | _ => a + b
def celK (x y : List Value) : Nat → List Value
  | 0 => []
  | 1 => x
  | _ => x ++ y
theorem sl_eq27 {a : Option Addr} {c n m : Nat} (h : n = m) : Value.slice a n c = Value.slice a m c := by rw [h]
theorem row_eq27 {e : TypeId} {s n m : Nat} {v u : Value} {xs ys : List Value} (hv : v = u) (h : n = m) (hx : xs = ys) : [Res.row e s v n xs] = [Res.row e s u m ys] := by rw [hv, h, hx]
set_option maxRecDepth 100000 in
set_option maxHeartbeats 4000000 in
theorem concatR_sat (v : Value) (a1 a2 : Option Addr) (c1 c2 : Nat) (rs ms : List Rul) (g1 g2 : Nat → Nat → Value) (w : World) (hv : Sl w v 1 2 (fun j => [.slice a1 rs.length c1, .slice a2 ms.length c2].getD j undef))
    (hS1 : Sl2 w (.slice a1 rs.length c1) 5 rs.length g1) (hE1 : ∀ j, (h : j < rs.length) → RulV w rs[j] (.agg #[g1 j 0, g1 j 1, g1 j 2, g1 j 3, g1 j 4])) (hS2 : Sl2 w (.slice a2 ms.length c2) 5 ms.length g2) (hE2 : ∀ j, (h : j < ms.length) → RulV w ms[j] (.agg #[g2 j 0, g2 j 1, g2 j 2, g2 j 3, g2 j 4])) (hl1 : rs.length ≤ 100) (hl2 : ms.length ≤ 100) :
    Sat Tryd.prog 23 [v] w (fun u L => L = [.row 57 5 u (rs.length + ms.length) (celR g1 rs.length ++ celR g2 ms.length)]) := by
  have o1 := rul_one hE1
  have o2 := rul_one hE2
  have k0 : sumK rs.length ms.length 0 = 0 := rfl
  have k1 : sumK rs.length ms.length 1 = rs.length := rfl
  have k2 : sumK rs.length ms.length 2 = rs.length + ms.length := rfl
  obtain ⟨_, _, _, q1, r1⟩ := hS1
  obtain ⟨_, _, _, q2, r2⟩ := hS2
  cases q1
  cases q2
  refine SatL.of 36 [2] Tryd.func23 (by kernel_rfl) (by kernel_rfl) rfl rfl rfl rfl ?_
  repeat' (first|(apply OK_seq)|(apply thenQ_n)|(apply OK_region)|(apply OKx_nilK)|(apply OK_block)|(apply blockQ_n)|(apply blockQ_s)|(apply thenQ_e)|(apply blockQ_e;exact rfl)|(apply thenQ_r)|(apply blockQ_r)|(apply OK_condT;exact rfl)|(apply OK_condF;exact rfl)|(apply OK_skip)|(apply OK_exit)|(apply OK_ret)|(apply OKx_move;(conv=>lhs;whnf)<;>exact rfl)|(apply OKx_assign;(conv=>lhs;whnf)<;>exact rfl)|(apply OKx_ldB;exact rfl;(first | exact at0|exact at1|exact at2|exact at3|exact at4|exact at5|exact at6|exact at7);exact rfl)|(apply OKx_ldR;(conv=>lhs;whnf)<;>exact rfl;(with_reducible assumption))|(apply OKx_len;exact rfl)|(apply OKx_lenR;(conv=>lhs;whnf)<;>exact rfl;(with_reducible assumption))|(apply OKx_lenR2;(conv=>lhs;whnf)<;>exact rfl;(with_reducible assumption))|(apply OKx_lenO;(conv=>lhs;whnf)<;>exact rfl;(first | exact at0|exact at1|exact at2|exact at3|exact at4|exact at5|exact at6|exact at7))|(apply OKx_lss;exact rfl;exact rfl;all_goals (intro _; try (exfalso;omega)))|(apply OKx_idxO;exact rfl;exact rfl;omega)|(apply OKx_idxR;(conv=>lhs;whnf)<;>exact rfl;(with_reducible assumption);exact rfl;omega;intro _ _)|(apply OKx_idxOz;exact rfl;exact rfl;omega;omega)|(apply OKx_idxRz;(conv=>lhs;whnf)<;>exact rfl;(with_reducible assumption);exact rfl;omega;omega;intro _ _)|(apply OKx_inc;exact rfl;exact rfl;omega)|(apply OKx_addN;exact rfl;exact rfl;omega)|(apply OKx_add;exact rfl;exact rfl;omega;omega))
  refine OK_loop2 3 11 [3, 5, 11, 12, 13, 14, 15, 16, 17, 18, 19, 20, 21, 22] (fun m u v L => ∃ k : Nat, k + m = 2 ∧ u = .int .i64 ((sumK rs.length ms.length k : Nat) : Int) ∧ v = .int .i64 (k : Int) ∧ L = []) 2 _ (Ent.refl _ _) ⟨0, by omega, rfl, rfl, rfl⟩ ?_
  rintro m u v' L G ⟨k, hk, rfl, rfl, rfl⟩
  have hk3 : k = 0 ∨ k = 1 ∨ k = 2 := by omega
  rcases hk3 with rfl | rfl | rfl
  · repeat' (first|(apply OK_seq)|(apply thenQ_n)|(apply OK_region)|(apply OKx_nilK)|(apply OK_block)|(apply blockQ_n)|(apply blockQ_s)|(apply thenQ_e)|(apply blockQ_e;exact rfl)|(apply thenQ_r)|(apply blockQ_r)|(apply OK_condT;exact rfl)|(apply OK_condF;exact rfl)|(apply OK_skip)|(apply OK_exit)|(apply OK_ret)|(apply OKx_move;(conv=>lhs;whnf)<;>exact rfl)|(apply OKx_assign;(conv=>lhs;whnf)<;>exact rfl)|(apply OKx_ldB;exact rfl;(first | exact at0|exact at1|exact at2|exact at3|exact at4|exact at5|exact at6|exact at7);exact rfl)|(apply OKx_ldR;(conv=>lhs;whnf)<;>exact rfl;(with_reducible assumption))|(apply OKx_len;exact rfl)|(apply OKx_lenR;(conv=>lhs;whnf)<;>exact rfl;(with_reducible assumption))|(apply OKx_lenR2;(conv=>lhs;whnf)<;>exact rfl;(with_reducible assumption))|(apply OKx_lenO;(conv=>lhs;whnf)<;>exact rfl;(first | exact at0|exact at1|exact at2|exact at3|exact at4|exact at5|exact at6|exact at7))|(apply OKx_lss;exact rfl;exact rfl;all_goals (intro _; try (exfalso;omega)))|(apply OKx_idxO;exact rfl;exact rfl;omega)|(apply OKx_idxR;(conv=>lhs;whnf)<;>exact rfl;(with_reducible assumption);exact rfl;omega;intro _ _)|(apply OKx_idxOz;exact rfl;exact rfl;omega;omega)|(apply OKx_idxRz;(conv=>lhs;whnf)<;>exact rfl;(with_reducible assumption);exact rfl;omega;omega;intro _ _)|(apply OKx_inc;exact rfl;exact rfl;omega)|(apply OKx_addN;exact rfl;exact rfl;omega)|(apply OKx_add;exact rfl;exact rfl;omega;omega))
    all_goals (try (exfalso;omega))
    refine ⟨by (repeat' (first | refine agree_upd rfl ?_ | exact agree_over | exact agree_refl _ _ | refine agree_over2 rfl ?_)), m - 1, _, by omega, Ent.refl _ _, ?_⟩
    exact ⟨1, by omega, int_eq (by omega), rfl, rfl⟩
  · repeat' (first|(apply OK_seq)|(apply thenQ_n)|(apply OK_region)|(apply OKx_nilK)|(apply OK_block)|(apply blockQ_n)|(apply blockQ_s)|(apply thenQ_e)|(apply blockQ_e;exact rfl)|(apply thenQ_r)|(apply blockQ_r)|(apply OK_condT;exact rfl)|(apply OK_condF;exact rfl)|(apply OK_skip)|(apply OK_exit)|(apply OK_ret)|(apply OKx_move;(conv=>lhs;whnf)<;>exact rfl)|(apply OKx_assign;(conv=>lhs;whnf)<;>exact rfl)|(apply OKx_ldB;exact rfl;(first | exact at0|exact at1|exact at2|exact at3|exact at4|exact at5|exact at6|exact at7);exact rfl)|(apply OKx_ldR;(conv=>lhs;whnf)<;>exact rfl;(with_reducible assumption))|(apply OKx_len;exact rfl)|(apply OKx_lenR;(conv=>lhs;whnf)<;>exact rfl;(with_reducible assumption))|(apply OKx_lenR2;(conv=>lhs;whnf)<;>exact rfl;(with_reducible assumption))|(apply OKx_lenO;(conv=>lhs;whnf)<;>exact rfl;(first | exact at0|exact at1|exact at2|exact at3|exact at4|exact at5|exact at6|exact at7))|(apply OKx_lss;exact rfl;exact rfl;all_goals (intro _; try (exfalso;omega)))|(apply OKx_idxO;exact rfl;exact rfl;omega)|(apply OKx_idxR;(conv=>lhs;whnf)<;>exact rfl;(with_reducible assumption);exact rfl;omega;intro _ _)|(apply OKx_idxOz;exact rfl;exact rfl;omega;omega)|(apply OKx_idxRz;(conv=>lhs;whnf)<;>exact rfl;(with_reducible assumption);exact rfl;omega;omega;intro _ _)|(apply OKx_inc;exact rfl;exact rfl;omega)|(apply OKx_addN;exact rfl;exact rfl;omega)|(apply OKx_add;exact rfl;exact rfl;omega;omega))
    all_goals (try (exfalso;omega))
    refine ⟨by (repeat' (first | refine agree_upd rfl ?_ | exact agree_over | exact agree_refl _ _ | refine agree_over2 rfl ?_)), m - 1, _, by omega, Ent.refl _ _, ?_⟩
    exact ⟨2, by omega, int_eq (by omega), rfl, rfl⟩
  repeat' (first|(apply OK_seq)|(apply thenQ_n)|(apply OK_region)|(apply OKx_gc 47;exact rfl; refine OKx_call (f := 47) rfl rfl (fun w1 hp => growR_sat (sumK rs.length ms.length 2) w1 (by omega)) ?_; rintro _ _ ⟨an, cn, rfl, rfl⟩; rw [List.cons_append, List.nil_append])|(apply OKx_nilK)|(apply OK_block)|(apply blockQ_n)|(apply blockQ_s)|(apply thenQ_e)|(apply blockQ_e;exact rfl)|(apply thenQ_r)|(apply blockQ_r)|(apply OK_condT;exact rfl)|(apply OK_condF;exact rfl)|(apply OK_skip)|(apply OK_exit)|(apply OK_ret)|(apply OKx_move;(conv=>lhs;whnf)<;>exact rfl)|(apply OKx_assign;(conv=>lhs;whnf)<;>exact rfl)|(apply OKx_ldB;exact rfl;(first | exact at0|exact at1|exact at2|exact at3|exact at4|exact at5|exact at6|exact at7);exact rfl)|(apply OKx_ldR;(conv=>lhs;whnf)<;>exact rfl;(with_reducible assumption))|(apply OKx_len;exact rfl)|(apply OKx_lenR;(conv=>lhs;whnf)<;>exact rfl;(with_reducible assumption))|(apply OKx_lenR2;(conv=>lhs;whnf)<;>exact rfl;(with_reducible assumption))|(apply OKx_lenO;(conv=>lhs;whnf)<;>exact rfl;(first | exact at0|exact at1|exact at2|exact at3|exact at4|exact at5|exact at6|exact at7))|(apply OKx_lss;exact rfl;exact rfl;all_goals (intro _; try (exfalso;omega)))|(apply OKx_idxO;exact rfl;exact rfl;omega)|(apply OKx_idxR;(conv=>lhs;whnf)<;>exact rfl;(with_reducible assumption);exact rfl;omega;intro _ _)|(apply OKx_idxOz;exact rfl;exact rfl;omega;omega)|(apply OKx_idxRz;(conv=>lhs;whnf)<;>exact rfl;(with_reducible assumption);exact rfl;omega;omega;intro _ _)|(apply OKx_inc;exact rfl;exact rfl;omega)|(apply OKx_addN;exact rfl;exact rfl;omega)|(apply OKx_add;exact rfl;exact rfl;omega;omega))
  all_goals (try (exfalso;omega))
  refine OK_loop2 6 27 [6, 8, 27, 28, 29, 30, 31, 32, 33, 34] (fun m u v L => ∃ (k c : Nat) (a : Option Addr), k + m = 2 ∧ u = .slice a (sumK rs.length ms.length k) c ∧ v = .int .i64 (k : Int) ∧ L = [.row 57 5 (.slice a (sumK rs.length ms.length k) c) (sumK rs.length ms.length k) (celK (celR g1 rs.length) (celR g2 ms.length) k)]) 2 _ (Ent.refl _ _) ⟨0, cn, an, by omega, rfl, rfl, rfl⟩ ?_
  rintro m2 u v' L G2 ⟨k, c, a, hk2, rfl, rfl, rfl⟩
  have hk3 : k = 0 ∨ k = 1 ∨ k = 2 := by omega
  rcases hk3 with rfl | rfl | rfl
  · by_cases hz : rs.length = 0
    · have ez : celR g1 rs.length = [] := List.eq_nil_of_length_eq_zero (by rw [celR_len];omega)
      repeat' (first|(apply OK_seq)|(apply thenQ_n)|(apply OK_region)|(apply OKx_gb; refine OKx_app0 0 rfl (show Value.slice a1 rs.length c1 = .slice a1 0 c1 by rw [hz]) rfl ?_)|(apply OKx_nilK)|(apply OK_block)|(apply blockQ_n)|(apply blockQ_s)|(apply thenQ_e)|(apply blockQ_e;exact rfl)|(apply thenQ_r)|(apply blockQ_r)|(apply OK_condT;exact rfl)|(apply OK_condF;exact rfl)|(apply OK_skip)|(apply OK_exit)|(apply OK_ret)|(apply OKx_move;(conv=>lhs;whnf)<;>exact rfl)|(apply OKx_assign;(conv=>lhs;whnf)<;>exact rfl)|(apply OKx_ldB;exact rfl;(first | exact at0|exact at1|exact at2|exact at3|exact at4|exact at5|exact at6|exact at7);exact rfl)|(apply OKx_ldR;(conv=>lhs;whnf)<;>exact rfl;(with_reducible assumption))|(apply OKx_len;exact rfl)|(apply OKx_lenR;(conv=>lhs;whnf)<;>exact rfl;(with_reducible assumption))|(apply OKx_lenR2;(conv=>lhs;whnf)<;>exact rfl;(with_reducible assumption))|(apply OKx_lenO;(conv=>lhs;whnf)<;>exact rfl;(first | exact at0|exact at1|exact at2|exact at3|exact at4|exact at5|exact at6|exact at7))|(apply OKx_lss;exact rfl;exact rfl;all_goals (intro _; try (exfalso;omega)))|(apply OKx_idxO;exact rfl;exact rfl;omega)|(apply OKx_idxR;(conv=>lhs;whnf)<;>exact rfl;(with_reducible assumption);exact rfl;omega;intro _ _)|(apply OKx_idxOz;exact rfl;exact rfl;omega;omega)|(apply OKx_idxRz;(conv=>lhs;whnf)<;>exact rfl;(with_reducible assumption);exact rfl;omega;omega;intro _ _)|(apply OKx_inc;exact rfl;exact rfl;omega)|(apply OKx_addN;exact rfl;exact rfl;omega)|(apply OKx_add;exact rfl;exact rfl;omega;omega))
      all_goals (try (exfalso;omega))
      refine ⟨by (repeat' (first | refine agree_upd rfl ?_ | exact agree_over | exact agree_refl _ _ | refine agree_over2 rfl ?_)), m2 - 1, _, by omega, Ent.refl _ _, ?_⟩
      exact ⟨1, c, a, by omega, sl_eq27 (by omega), rfl, row_eq27 (sl_eq27 (by omega)) (by omega) ez.symm⟩
    · obtain ⟨b1, f1, rfl, hc1⟩ := r1.resolve_left hz
      repeat' (first|(apply OK_seq)|(apply thenQ_n)|(apply OK_region)|(apply OKx_gb; refine OKx_append 0 (M := rs.length) (ys := celR g1 rs.length) rfl rfl rfl (celR_len _ _) (fun w1 hp j u hj => ?_) o1 (by omega) (by omega) (by omega) ?_; rotate_left; intro g4 c4)|(apply OKx_nilK)|(apply OK_block)|(apply blockQ_n)|(apply blockQ_s)|(apply thenQ_e)|(apply blockQ_e;exact rfl)|(apply thenQ_r)|(apply blockQ_r)|(apply OK_condT;exact rfl)|(apply OK_condF;exact rfl)|(apply OK_skip)|(apply OK_exit)|(apply OK_ret)|(apply OKx_move;(conv=>lhs;whnf)<;>exact rfl)|(apply OKx_assign;(conv=>lhs;whnf)<;>exact rfl)|(apply OKx_ldB;exact rfl;(first | exact at0|exact at1|exact at2|exact at3|exact at4|exact at5|exact at6|exact at7);exact rfl)|(apply OKx_ldR;(conv=>lhs;whnf)<;>exact rfl;(with_reducible assumption))|(apply OKx_len;exact rfl)|(apply OKx_lenR;(conv=>lhs;whnf)<;>exact rfl;(with_reducible assumption))|(apply OKx_lenR2;(conv=>lhs;whnf)<;>exact rfl;(with_reducible assumption))|(apply OKx_lenO;(conv=>lhs;whnf)<;>exact rfl;(first | exact at0|exact at1|exact at2|exact at3|exact at4|exact at5|exact at6|exact at7))|(apply OKx_lss;exact rfl;exact rfl;all_goals (intro _; try (exfalso;omega)))|(apply OKx_idxO;exact rfl;exact rfl;omega)|(apply OKx_idxR;(conv=>lhs;whnf)<;>exact rfl;(with_reducible assumption);exact rfl;omega;intro _ _)|(apply OKx_idxOz;exact rfl;exact rfl;omega;omega)|(apply OKx_idxRz;(conv=>lhs;whnf)<;>exact rfl;(with_reducible assumption);exact rfl;omega;omega;intro _ _)|(apply OKx_inc;exact rfl;exact rfl;omega)|(apply OKx_addN;exact rfl;exact rfl;omega)|(apply OKx_add;exact rfl;exact rfl;omega;omega))
      all_goals (try (exfalso;omega))
      · refine ⟨by (repeat' (first | refine agree_upd rfl ?_ | exact agree_over | exact agree_refl _ _ | refine agree_over2 rfl ?_)), m2 - 1, _, by omega, Ent.refl _ _, ?_⟩
        exact ⟨1, c4, some ⟨g4, 0, none⟩, by omega, sl_eq27 (by omega), rfl, row_eq27 (sl_eq27 (by omega)) (by omega) rfl⟩
      · exact (hp.below.cell (World.block_lt_of_cell? w _ (celR_cell hc1 j u hj))).trans (celR_cell hc1 j u hj)
  · by_cases hz : ms.length = 0
    · have ez : celR g2 ms.length = [] := List.eq_nil_of_length_eq_zero (by rw [celR_len];omega)
      repeat' (first|(apply OK_seq)|(apply thenQ_n)|(apply OK_region)|(apply OKx_gb; refine OKx_app0 0 rfl (show Value.slice a2 ms.length c2 = .slice a2 0 c2 by rw [hz]) rfl ?_)|(apply OKx_nilK)|(apply OK_block)|(apply blockQ_n)|(apply blockQ_s)|(apply thenQ_e)|(apply blockQ_e;exact rfl)|(apply thenQ_r)|(apply blockQ_r)|(apply OK_condT;exact rfl)|(apply OK_condF;exact rfl)|(apply OK_skip)|(apply OK_exit)|(apply OK_ret)|(apply OKx_move;(conv=>lhs;whnf)<;>exact rfl)|(apply OKx_assign;(conv=>lhs;whnf)<;>exact rfl)|(apply OKx_ldB;exact rfl;(first | exact at0|exact at1|exact at2|exact at3|exact at4|exact at5|exact at6|exact at7);exact rfl)|(apply OKx_ldR;(conv=>lhs;whnf)<;>exact rfl;(with_reducible assumption))|(apply OKx_len;exact rfl)|(apply OKx_lenR;(conv=>lhs;whnf)<;>exact rfl;(with_reducible assumption))|(apply OKx_lenR2;(conv=>lhs;whnf)<;>exact rfl;(with_reducible assumption))|(apply OKx_lenO;(conv=>lhs;whnf)<;>exact rfl;(first | exact at0|exact at1|exact at2|exact at3|exact at4|exact at5|exact at6|exact at7))|(apply OKx_lss;exact rfl;exact rfl;all_goals (intro _; try (exfalso;omega)))|(apply OKx_idxO;exact rfl;exact rfl;omega)|(apply OKx_idxR;(conv=>lhs;whnf)<;>exact rfl;(with_reducible assumption);exact rfl;omega;intro _ _)|(apply OKx_idxOz;exact rfl;exact rfl;omega;omega)|(apply OKx_idxRz;(conv=>lhs;whnf)<;>exact rfl;(with_reducible assumption);exact rfl;omega;omega;intro _ _)|(apply OKx_inc;exact rfl;exact rfl;omega)|(apply OKx_addN;exact rfl;exact rfl;omega)|(apply OKx_add;exact rfl;exact rfl;omega;omega))
      all_goals (try (exfalso;omega))
      refine ⟨by (repeat' (first | refine agree_upd rfl ?_ | exact agree_over | exact agree_refl _ _ | refine agree_over2 rfl ?_)), m2 - 1, _, by omega, Ent.refl _ _, ?_⟩
      exact ⟨2, c, a, by omega, sl_eq27 (by omega), rfl, row_eq27 (sl_eq27 (by omega)) (by omega) (show celR g1 rs.length = celR g1 rs.length ++ celR g2 ms.length by rw [ez, List.append_nil])⟩
    · obtain ⟨b2, f2, rfl, hc2⟩ := r2.resolve_left hz
      repeat' (first|(apply OK_seq)|(apply thenQ_n)|(apply OK_region)|(apply OKx_gb; refine OKx_append 0 (M := ms.length) (ys := celR g2 ms.length) rfl rfl rfl (celR_len _ _) (fun w1 hp j u hj => ?_) o2 (by omega) (by omega) (by omega) ?_; rotate_left; intro g4 c4)|(apply OKx_nilK)|(apply OK_block)|(apply blockQ_n)|(apply blockQ_s)|(apply thenQ_e)|(apply blockQ_e;exact rfl)|(apply thenQ_r)|(apply blockQ_r)|(apply OK_condT;exact rfl)|(apply OK_condF;exact rfl)|(apply OK_skip)|(apply OK_exit)|(apply OK_ret)|(apply OKx_move;(conv=>lhs;whnf)<;>exact rfl)|(apply OKx_assign;(conv=>lhs;whnf)<;>exact rfl)|(apply OKx_ldB;exact rfl;(first | exact at0|exact at1|exact at2|exact at3|exact at4|exact at5|exact at6|exact at7);exact rfl)|(apply OKx_ldR;(conv=>lhs;whnf)<;>exact rfl;(with_reducible assumption))|(apply OKx_len;exact rfl)|(apply OKx_lenR;(conv=>lhs;whnf)<;>exact rfl;(with_reducible assumption))|(apply OKx_lenR2;(conv=>lhs;whnf)<;>exact rfl;(with_reducible assumption))|(apply OKx_lenO;(conv=>lhs;whnf)<;>exact rfl;(first | exact at0|exact at1|exact at2|exact at3|exact at4|exact at5|exact at6|exact at7))|(apply OKx_lss;exact rfl;exact rfl;all_goals (intro _; try (exfalso;omega)))|(apply OKx_idxO;exact rfl;exact rfl;omega)|(apply OKx_idxR;(conv=>lhs;whnf)<;>exact rfl;(with_reducible assumption);exact rfl;omega;intro _ _)|(apply OKx_idxOz;exact rfl;exact rfl;omega;omega)|(apply OKx_idxRz;(conv=>lhs;whnf)<;>exact rfl;(with_reducible assumption);exact rfl;omega;omega;intro _ _)|(apply OKx_inc;exact rfl;exact rfl;omega)|(apply OKx_addN;exact rfl;exact rfl;omega)|(apply OKx_add;exact rfl;exact rfl;omega;omega))
      all_goals (try (exfalso;omega))
      · refine ⟨by (repeat' (first | refine agree_upd rfl ?_ | exact agree_over | exact agree_refl _ _ | refine agree_over2 rfl ?_)), m2 - 1, _, by omega, Ent.refl _ _, ?_⟩
        exact ⟨2, c4, some ⟨g4, 0, none⟩, by omega, sl_eq27 (by omega), rfl, row_eq27 (sl_eq27 (by omega)) (by omega) rfl⟩
      · exact (hp.below.cell (World.block_lt_of_cell? w _ (celR_cell hc2 j u hj))).trans (celR_cell hc2 j u hj)
  · repeat' (first|(apply OK_seq)|(apply thenQ_n)|(apply OK_region)|(apply OKx_nilK)|(apply OK_block)|(apply blockQ_n)|(apply blockQ_s)|(apply thenQ_e)|(apply blockQ_e;exact rfl)|(apply thenQ_r)|(apply blockQ_r)|(apply OK_condT;exact rfl)|(apply OK_condF;exact rfl)|(apply OK_skip)|(apply OK_exit)|(apply OK_ret)|(apply OKx_move;(conv=>lhs;whnf)<;>exact rfl)|(apply OKx_assign;(conv=>lhs;whnf)<;>exact rfl)|(apply OKx_ldB;exact rfl;(first | exact at0|exact at1|exact at2|exact at3|exact at4|exact at5|exact at6|exact at7);exact rfl)|(apply OKx_ldR;(conv=>lhs;whnf)<;>exact rfl;(with_reducible assumption))|(apply OKx_len;exact rfl)|(apply OKx_lenR;(conv=>lhs;whnf)<;>exact rfl;(with_reducible assumption))|(apply OKx_lenR2;(conv=>lhs;whnf)<;>exact rfl;(with_reducible assumption))|(apply OKx_lenO;(conv=>lhs;whnf)<;>exact rfl;(first | exact at0|exact at1|exact at2|exact at3|exact at4|exact at5|exact at6|exact at7))|(apply OKx_lss;exact rfl;exact rfl;all_goals (intro _; try (exfalso;omega)))|(apply OKx_idxO;exact rfl;exact rfl;omega)|(apply OKx_idxR;(conv=>lhs;whnf)<;>exact rfl;(with_reducible assumption);exact rfl;omega;intro _ _)|(apply OKx_idxOz;exact rfl;exact rfl;omega;omega)|(apply OKx_idxRz;(conv=>lhs;whnf)<;>exact rfl;(with_reducible assumption);exact rfl;omega;omega;intro _ _)|(apply OKx_inc;exact rfl;exact rfl;omega)|(apply OKx_addN;exact rfl;exact rfl;omega)|(apply OKx_add;exact rfl;exact rfl;omega;omega))
    all_goals (try (exfalso;omega))
    refine bodyQ_r1 (by ((conv=>lhs;whnf)<;>exact rfl)) ?_
    exact ⟨_, Ent.refl _ _, rfl⟩
theorem concatR_ruls {B : Nat} {w0 w : World} {L : List Res} {u : Value} {rs ms : List Rul} {g1 g2 : Nat → Nat → Value} (hp : Hp B w0 w L) (i : Nat) (hi : L[i]? = some (.row 57 5 u (rs.length + ms.length) (celR g1 rs.length ++ celR g2 ms.length))) (hE1 : ∀ j, (h : j < rs.length) → RulV w rs[j] (.agg #[g1 j 0, g1 j 1, g1 j 2, g1 j 3, g1 j 4])) (hE2 : ∀ j, (h : j < ms.length) → RulV w ms[j] (.agg #[g2 j 0, g2 j 1, g2 j 2, g2 j 3, g2 j 4])) (hl1 : rs.length ≤ 100) (hl2 : ms.length ≤ 100) : Ruls w u (rs ++ ms) := by
  have ho : w.ownsRow B 57 5 u (rs.length + ms.length) (celR g1 rs.length ++ celR g2 ms.length) := hp.ok _ (List.mem_of_getElem? hi)
  have hlen : (rs ++ ms).length = rs.length + ms.length := List.length_append
  refine ⟨fun j c => (celR g1 rs.length ++ celR g2 ms.length).getD (j * 5 + c) undef, ?_, ?_, ?_⟩
  · rw [hlen]
    rcases ho.2 with ⟨rfl, h0⟩ | ⟨g, cap, cur, rfl, _⟩
    · rw [h0]
      exact ⟨by omega, none, 0, rfl, .inl rfl⟩
    · exact hp.sl2 i hi (by omega) (by rw [List.length_append, celR_len, celR_len];omega)
  · intro j hj
    rw [hlen] at hj
    by_cases h : j < rs.length
    · rw [List.getElem_append_left h]
      simp only [celR_lo g1 g2 rs.length ms.length j _ h (show 0 < 5 by decide), celR_lo g1 g2 rs.length ms.length j _ h (show 1 < 5 by decide), celR_lo g1 g2 rs.length ms.length j _ h (show 2 < 5 by decide), celR_lo g1 g2 rs.length ms.length j _ h (show 3 < 5 by decide), celR_lo g1 g2 rs.length ms.length j _ h (show 4 < 5 by decide)]
      exact hE1 j h
    · rw [List.getElem_append_right (by omega)]
      simp only [celR_hi g1 g2 rs.length ms.length j _ (by omega) hj (show 0 < 5 by decide), celR_hi g1 g2 rs.length ms.length j _ (by omega) hj (show 1 < 5 by decide), celR_hi g1 g2 rs.length ms.length j _ (by omega) hj (show 2 < 5 by decide), celR_hi g1 g2 rs.length ms.length j _ (by omega) hj (show 3 < 5 by decide), celR_hi g1 g2 rs.length ms.length j _ (by omega) hj (show 4 < 5 by decide)]
      exact hE2 (j - rs.length) (by omega)
  · intro a k c e
    rcases ho.2 with ⟨h1, h0⟩ | ⟨g, cap, cur, h1, _, _, h4, _⟩
    · rw [h1] at e
      cases e
      exact Nat.le_refl _
    · rw [h1] at e
      cases e
      exact h4
end Go.Proofs.YthnlnffmmioapaaDoor
