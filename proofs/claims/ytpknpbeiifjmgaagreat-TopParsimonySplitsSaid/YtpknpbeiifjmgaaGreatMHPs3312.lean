/-
  Part 12 of the proof: Rp33. No statement of the seat is proved here.
-/
import Derived.Test.YtpknpbeiifjmgaaGreatMHPs3311
import Derived.Laws.IdiomCopy
namespace Go.Proofs.YtpknpbeiifjmgaaGreat
open Go.RowKit
section
variable {P : Program} {n : Nat} {w0 : World} {K : Fm → List Res → Prop} {F : Fm} {L Lw : List Res} {ops : Array Oper} {rest : List Oper} {d : Option Nat} {ty : TypeId} {pos : String} {aft : Array Edge}
theorem OKx_copyR {x y : Operand} {t e bytes : Nat} {z : Value} [T : TSlice P t e 1 bytes z] [hE : Keeps w0 L Lw] (i : Nat) {g o dl dc N cap b o2 sl sc : Nat} {xs ys : List Value} (hx : rv n F x = .slice (some ⟨g, o, none⟩) dl dc) (hy : rv n F y = .slice (some ⟨b, o2, none⟩) sl sc)
    (hi : L[i]? = some (.row e 1 (.slice (some ⟨g, 0, none⟩) N cap) N xs)) (hl : ys.length = Nat.min sl dl) (hs : ∀ w, Hp w0.heap.size w0 w L → ∀ j u, ys[j]? = some u → w.cell? ⟨b, o2 + j, none⟩ = some u) (h1 : ∀ u ∈ ys, u.oneCell' = true) (hfit : o + ys.length ≤ N)
    (kk : OKx P n w0 (.seq Lw) ops K rest (updo F d (.int .i64 (ys.length : Int))) (L.set i (.row e 1 (.slice (some ⟨g, 0, none⟩) N cap) N (lays xs o ys)))) :
    OKx P n w0 (.seq Lw) ops K (⟨d, .call { callee := .builtin .copy, args := #[x, y], argTypes := #[t, t] }, ty, pos, aft, none⟩ :: rest) F L := by
  refine OKx_actW hE.ent fun w a hfr hp => ?_
  obtain ⟨i0, hi0, hz0, hz1, hz2⟩ := info_parts T.ty.inf
  obtain ⟨hc, hf, _, _⟩ := hp.rowAt i hi
  have hown : w.ownsRow w0.heap.size e 1 (.slice (some ⟨g, 0, none⟩) N cap) N xs := hp.ok _ (List.mem_of_getElem? hi)
  have hxl := hown.1
  have hrun := run_copy_cells (P := P) w t t ty e g o dl dc ⟨b, o2, none⟩ sl sc ys T.ty.und (by rw [hi0]; simp [hz1]) hl (fun j u hj => by rw [add_at]; exact hs w hp j u hj)
    (fun j hj => by rw [hc _ (by omega), List.getElem?_eq_getElem (by omega)]; rfl) (fun j hj => hf _) h1
  have e1 : a.eval x = .slice (some ⟨g, o, none⟩) dl dc := by rw [hfr.eval]; exact hx
  have e2 : a.eval y = .slice (some ⟨b, o2, none⟩) sl sc := by rw [hfr.eval]; exact hy
  unfold Oper.wp
  simp [execOp, resolve, invoke, builtin, e1, e2, hrun, Result.andThen, goInt]
  exact kk.use _ _ (hfr.put d _) (Hp.setRowMany ys o hp hi)
end
set_option maxRecDepth 100000 in
set_option maxHeartbeats 4000000 in
theorem bitsMul_sat (x y : Nat) (hx : x < 18446744073709551616) (hy : y < 18446744073709551616) (w : World) : SatV Tryz.prog 75 [.int .u64 x, .int .u64 y] w (.tuple #[.int .u64 ((x * y / 18446744073709551616 : Nat) : Int), .int .u64 ((x * y % 18446744073709551616 : Nat) : Int)]) :=
  Sat.lib ⟨_, _, Tryz.func75, by kernel_rfl, rfl⟩ fun w1 hb => by
    refine (Tryz.bits_Mul x y hx hy w1).mono ?_
    rintro e w' ⟨rfl, hw⟩
    exact ⟨_, [], rfl, by rw [hw]; exact Hp.refl _, rfl, rfl⟩
theorem lays_rep (v u : Value) (N k m : Nat) (h : k + m ≤ N) : lays (List.replicate k v ++ List.replicate (N - k) u) k (List.replicate m v) = List.replicate (k + m) v ++ List.replicate (N - (k + m)) u := by
  rw [lays_eq _ _ _ (by simp;omega)]
  refine List.ext_getElem (by simp;omega) fun j h1 h2 => ?_
  simp only [List.length_append, List.length_take, List.length_replicate, List.length_drop] at h1
  simp only [List.getElem_append, List.getElem_take, List.getElem_replicate, List.getElem_drop, List.length_append, List.length_take, List.length_replicate]
  repeat' split
  all_goals first | rfl | omega
def RepR (v : Int) (n : Nat) (u : Value) (L : List Res) : Prop := ∃ g, u = .slice (some ⟨g, 0, none⟩) n n ∧ L = [.row 3 1 (.slice (some ⟨g, 0, none⟩) n n) n (ints (List.replicate n v))]
theorem ints_rep (n : Nat) (v : Int) : ints (List.replicate n v) = List.replicate n (Value.int .i64 v) := by simp [ints]
set_option maxRecDepth 100000 in
set_option maxHeartbeats 4000000 in
theorem rep_sat (xv : Value) (v : Int) (n : Nat) (w : World) (h : Ints w xv [v]) (hn : n ≤ 1000000) : Sat Tryz.prog 48 [xv, .int .i64 (n : Int)] w (RepR v n) := by
  obtain ⟨a, cap, rfl, _, hcell⟩ := h.at
  obtain ⟨b, off, rfl, hc0⟩ := hcell 0 (by simp)
  have hw1 : IntKind.u64.wrap ((1 : Nat) : Int) = ((1 : Nat) : Int) := wrapU _ (by omega)
  have hwn : IntKind.u64.wrap (n : Int) = (n : Int) := wrapU _ (by omega)
  have hin : IntKind.i64.wrap (n : Int) = (n : Int) := wrapI _ (by omega)
  have hmul := fun w1 => bitsMul_sat 1 n (by omega) (by omega) w1
  rw [show 1 * n / 18446744073709551616 = 0 by omega, show 1 * n % 18446744073709551616 = n by omega] at hmul
  have hcw : ∀ w1, Below w.heap.size w w1 → w1.cell? ⟨b, off, none⟩ = some (.int .i64 v) := fun w1 hb => by
    obtain ⟨_, _, e, _, hc⟩ := (h.below hb).at
    obtain ⟨_, _, e2, hc⟩ := hc 0 (by simp)
    simp only [Value.slice.injEq] at e
    obtain ⟨rfl, _, _⟩ := e
    simp only [Option.some.injEq, Addr.mk.injEq] at e2
    obtain ⟨rfl, rfl, _⟩ := e2
    exact hc
  have hs1 : ∀ w1, Below w.heap.size w w1 → ∀ (j : Nat) (u : Value), (List.replicate (min 1 n) (Value.int .i64 v))[j]? = some u → w1.cell? ⟨b, off + j, none⟩ = some u := fun w1 hb j u hj => by
    have hj2 : j < min 1 n := by simpa using (List.getElem?_eq_some_iff.1 hj).1
    obtain rfl : j = 0 := by omega
    rw [List.getElem?_replicate, if_pos hj2] at hj
    rw [← hj]
    exact hcw w1 hb
  refine SatL.of 48 [4] Tryz.func48 (by kernel_rfl) (by kernel_rfl) rfl rfl rfl rfl ?_
  repeat' (first|(apply OK_seq)|(apply thenQ_n)|(apply OK_region)|(refine OKx_convK (r := ((1 : Nat) : Int)) rfl rfl Tryz.underlying78 hw1 ?_)|(refine OKx_convK (r := (n : Int)) rfl rfl Tryz.underlying78 hwn ?_)|(refine OKx_convK (r := (n : Int)) rfl rfl Tryz.underlying3 hin ?_)|(apply OKx_gc 75;exact rfl; refine OKx_callV (f := 75) rfl rfl rfl (fun w1 hp => hmul w1) ?_)|(refine OKx_make (N := n) rfl rfl rfl (by omega) (by omega) ?_; intro gc)|(refine OKx_copyR 0 (ys := List.replicate (min 1 n) (.int .i64 v)) rfl rfl rfl (by rw [List.length_replicate]; rfl) (fun w1 hp j u hj => hs1 w1 hp.below j u hj) (fun u hu => by rw [List.eq_of_mem_replicate hu]; rfl) (by rw [List.length_replicate];omega) ?_)|(refine OK_rid 9 ?_; refine OK_mix [0] [1, 2, 3, 4, 5, 6] [] [7, 8, 9] [] (id := 9) (by kernel_rfl) (by kernel_rfl) rfl (Ent.nil) (by ((try simp only [pickO, nthO, List.cons_append, List.nil_append]) <;> exact rfl)) (by ((try simp only [pickO, nthO, List.cons_append, List.nil_append]) <;> exact rfl)) (by ((try simp only [pickO]) <;> exact rfl)) (by ((try simp only [pickO, nthO, List.cons_append, List.nil_append]) <;> exact rfl)) ?_)|(apply OKx_nilK)|(apply OK_block)|(apply blockQ_n)|(apply blockQ_s)|(apply thenQ_e)|(apply blockQ_e;exact rfl)|(apply thenQ_r)|(apply blockQ_r)|(apply OK_condT;exact rfl)|(apply OK_condF;exact rfl)|(apply OK_skip)|(apply OK_exit)|(apply OK_ret)|(apply OKx_move;(conv=>lhs;whnf)<;>exact rfl)|(apply OKx_assign;(conv=>lhs;whnf)<;>exact rfl)|(apply OKx_len;exact rfl)|(apply OKx_lenR;(conv=>lhs;whnf)<;>exact rfl;(with_reducible assumption))|(apply OKx_lenR2;(conv=>lhs;whnf)<;>exact rfl;(with_reducible assumption))|(apply OKx_lenO;(conv=>lhs;whnf)<;>exact rfl;(first | exact at0|exact at1|exact at2|exact at3|exact at4|exact at5|exact at6|exact at7))|(apply OKx_lss;exact rfl;exact rfl;all_goals (intro _; try (exfalso;omega)))|(apply OKx_gtr;exact rfl;exact rfl;all_goals (intro _; try (exfalso;omega)))|(apply OKx_inc;exact rfl;exact rfl;omega)|(apply OKx_addN;exact rfl;exact rfl;omega)|(apply OKx_add;exact rfl;exact rfl;omega;omega)|(apply OKx_pickT;exact rfl;(conv=>lhs;whnf)<;>exact rfl)|(apply OKx_pickF;exact rfl;(conv=>lhs;whnf)<;>exact rfl)|(apply OKx_guardT;exact rfl;exact rfl)|(apply OKx_guardF;exact rfl;exact rfl)|(apply OKx_guardU;exact rfl;exact rfl)|(apply OKx_extract;exact rfl;(conv=>lhs;whnf)<;>exact rfl))
  have hl0 := lays_rep (.int .i64 v) (.int .i64 0) n 0 (min 1 n) (by omega)
  rw [List.replicate_zero, List.nil_append, Nat.sub_zero, Nat.zero_add] at hl0
  refine OK_loop1 8 [8, 34, 35, 36, 37, 38, 39, 40, 41, 42, 43, 44, 45, 46] (fun m x L => ∃ k : Nat, k ≤ n ∧ (0 < n → 0 < k) ∧ m = n - k ∧ x = .int .i64 (k : Int) ∧ L = [.row 3 1 (.slice (some ⟨gc, 0, none⟩) n n) n (List.replicate k (Value.int .i64 v) ++ List.replicate (n - k) (Value.int .i64 0))]) _ _ (Ent.refl _ _) ⟨min 1 n, by omega, by omega, rfl, by show Value.int .i64 (((List.replicate (min 1 n) (Value.int .i64 v)).length : Nat) : Int) = _; rw [List.length_replicate], by rw [← hl0]; rfl⟩ ?_
  rintro m x L G ⟨k, hk, hk0, rfl, rfl, rfl⟩
  by_cases hkn : k < n
  · have hl1 := lays_rep (.int .i64 v) (.int .i64 0) n k (min k (n - k)) (by omega)
    have hs2 : ∀ w1, Hp w.heap.size w w1 [.row 3 1 (.slice (some ⟨gc, 0, none⟩) n n) n (List.replicate k (Value.int .i64 v) ++ List.replicate (n - k) (Value.int .i64 0))] → ∀ (j : Nat) (u : Value), (List.replicate (min k (n - k)) (Value.int .i64 v))[j]? = some u → w1.cell? ⟨gc, 0 + j, none⟩ = some u := fun w1 hp j u hj => by
      have hj2 : j < min k (n - k) := by simpa using (List.getElem?_eq_some_iff.1 hj).1
      rw [List.getElem?_replicate, if_pos hj2] at hj
      rw [← hj]
      obtain ⟨rc, _, _, _⟩ := hp.rowAt 0 rfl
      have := rc j (by omega)
      rw [Nat.zero_add, this, List.getElem?_append_left (by simp;omega), List.getElem?_replicate, if_pos (by omega)]
    repeat' (first|(apply OK_seq)|(apply thenQ_n)|(apply OK_region)|(refine OKx_slL (l := k) rfl rfl (by omega) ?_; intro o9 ho9; have ho9 := ho9 (by omega); rw [Nat.zero_add, Nat.mul_one] at ho9; rw [ho9])|(refine OKx_slH (h := k) rfl rfl (by omega) ?_)|(refine OKx_copyR 0 (g := gc) (o := k) (N := n) (ys := List.replicate (min k (n - k)) (.int .i64 v)) rfl rfl rfl (by rw [List.length_replicate]) (fun w1 hp j u hj => hs2 w1 hp j u hj) (fun u hu => by rw [List.eq_of_mem_replicate hu]; rfl) (by rw [List.length_replicate];omega) ?_; simp only [List.length_replicate])|(apply OKx_gn; refine OKx_addN (a := k) (b := min k (n - k)) rfl rfl (by omega) ?_)|(refine OK_rid 9 ?_; refine OK_mix [0] [1, 2, 3, 4, 5, 6] [] [7, 8, 9] [] (id := 9) (by kernel_rfl) (by kernel_rfl) rfl (Ent.nil) (by ((try simp only [pickO, nthO, List.cons_append, List.nil_append]) <;> exact rfl)) (by ((try simp only [pickO, nthO, List.cons_append, List.nil_append]) <;> exact rfl)) (by ((try simp only [pickO]) <;> exact rfl)) (by ((try simp only [pickO, nthO, List.cons_append, List.nil_append]) <;> exact rfl)) ?_)|(apply OKx_nilK)|(apply OK_block)|(apply blockQ_n)|(apply blockQ_s)|(apply thenQ_e)|(apply blockQ_e;exact rfl)|(apply thenQ_r)|(apply blockQ_r)|(apply OK_condT;exact rfl)|(apply OK_condF;exact rfl)|(apply OK_skip)|(apply OK_exit)|(apply OK_ret)|(apply OKx_move;(conv=>lhs;whnf)<;>exact rfl)|(apply OKx_assign;(conv=>lhs;whnf)<;>exact rfl)|(apply OKx_len;exact rfl)|(apply OKx_lenR;(conv=>lhs;whnf)<;>exact rfl;(with_reducible assumption))|(apply OKx_lenR2;(conv=>lhs;whnf)<;>exact rfl;(with_reducible assumption))|(apply OKx_lenO;(conv=>lhs;whnf)<;>exact rfl;(first | exact at0|exact at1|exact at2|exact at3|exact at4|exact at5|exact at6|exact at7))|(apply OKx_lss;exact rfl;exact rfl;all_goals (intro _; try (exfalso;omega)))|(apply OKx_gtr;exact rfl;exact rfl;all_goals (intro _; try (exfalso;omega)))|(apply OKx_inc;exact rfl;exact rfl;omega)|(apply OKx_addN;exact rfl;exact rfl;omega)|(apply OKx_add;exact rfl;exact rfl;omega;omega)|(apply OKx_pickT;exact rfl;(conv=>lhs;whnf)<;>exact rfl)|(apply OKx_pickF;exact rfl;(conv=>lhs;whnf)<;>exact rfl)|(apply OKx_guardT;exact rfl;exact rfl)|(apply OKx_guardF;exact rfl;exact rfl)|(apply OKx_guardU;exact rfl;exact rfl)|(apply OKx_extract;exact rfl;(conv=>lhs;whnf)<;>exact rfl))
    refine ⟨by (repeat' (first | refine agree_upd rfl ?_ | exact agree_over | exact agree_refl _ _ | refine agree_over2 rfl ?_)), n - (k + min k (n - k)), _, by omega, Ent.refl _ _, ?_⟩
    exact ⟨k + min k (n - k), by omega, by omega, rfl, rfl, by rw [← hl1]; rfl⟩
  · obtain rfl : k = n := by omega
    repeat' (first|(apply OK_seq)|(apply thenQ_n)|(apply OK_region)|(refine OK_rid 9 ?_; refine OK_mix [0] [1, 2, 3, 4, 5, 6] [] [7, 8, 9] [] (id := 9) (by kernel_rfl) (by kernel_rfl) rfl (Ent.nil) (by ((try simp only [pickO, nthO, List.cons_append, List.nil_append]) <;> exact rfl)) (by ((try simp only [pickO, nthO, List.cons_append, List.nil_append]) <;> exact rfl)) (by ((try simp only [pickO]) <;> exact rfl)) (by ((try simp only [pickO, nthO, List.cons_append, List.nil_append]) <;> exact rfl)) ?_)|(apply OKx_nilK)|(apply OK_block)|(apply blockQ_n)|(apply blockQ_s)|(apply thenQ_e)|(apply blockQ_e;exact rfl)|(apply thenQ_r)|(apply blockQ_r)|(apply OK_condT;exact rfl)|(apply OK_condF;exact rfl)|(apply OK_skip)|(apply OK_exit)|(apply OK_ret)|(apply OKx_move;(conv=>lhs;whnf)<;>exact rfl)|(apply OKx_assign;(conv=>lhs;whnf)<;>exact rfl)|(apply OKx_len;exact rfl)|(apply OKx_lenR;(conv=>lhs;whnf)<;>exact rfl;(with_reducible assumption))|(apply OKx_lenR2;(conv=>lhs;whnf)<;>exact rfl;(with_reducible assumption))|(apply OKx_lenO;(conv=>lhs;whnf)<;>exact rfl;(first | exact at0|exact at1|exact at2|exact at3|exact at4|exact at5|exact at6|exact at7))|(apply OKx_lss;exact rfl;exact rfl;all_goals (intro _; try (exfalso;omega)))|(apply OKx_gtr;exact rfl;exact rfl;all_goals (intro _; try (exfalso;omega)))|(apply OKx_inc;exact rfl;exact rfl;omega)|(apply OKx_addN;exact rfl;exact rfl;omega)|(apply OKx_add;exact rfl;exact rfl;omega;omega)|(apply OKx_pickT;exact rfl;(conv=>lhs;whnf)<;>exact rfl)|(apply OKx_pickF;exact rfl;(conv=>lhs;whnf)<;>exact rfl)|(apply OKx_guardT;exact rfl;exact rfl)|(apply OKx_guardF;exact rfl;exact rfl)|(apply OKx_guardU;exact rfl;exact rfl)|(apply OKx_extract;exact rfl;(conv=>lhs;whnf)<;>exact rfl))
    refine bodyQ_r1 (by ((conv=>lhs;whnf)<;>exact rfl)) ?_
    refine ⟨_, Ent.refl _ _, gc, rfl, ?_⟩
    rw [ints_rep, Nat.sub_self, List.replicate_zero, List.append_nil]
def uniL (n : Nat) : List (List Int) := (List.range n).map fun a => (List.range n).map fun b => if a = b then 0 else 1
theorem uniL_at (n a : Nat) (h : a < n) : (uniL n).getD a [] = (List.replicate n (1 : Int)).set a 0 := by
  have e : (uniL n).getD a [] = (List.range n).map fun b => if a = b then 0 else 1 := by simp [uniL, h]
  rw [e]
  refine List.ext_getElem (by simp) fun j h1 h2 => ?_
  simp only [List.length_map, List.length_range] at h1
  rw [List.getElem_set]
  simp
theorem uniL_cos (n a b : Nat) (ha : a < n) (hb : b < n) : cosT (uniL n) a b = if a = b then 0 else 1 := by
  unfold cosT
  simp [uniL, ha, hb]
def UniR (n : Nat) (u : Value) (L : List Res) : Prop := ∃ g, u = .slice (some ⟨g, 0, none⟩) n n ∧ ∀ w0 w, Hp w0.heap.size w0 w L → Tabs w (.slice (some ⟨g, 0, none⟩) n n) (uniL n)
set_option maxRecDepth 100000 in
set_option maxHeartbeats 4000000 in
theorem unit_sat (n : Nat) (w : World) (hn : n ≤ 1000) : Sat Tryz.prog 27 [.int .i64 (n : Int)] w (UniR n) := by
  refine SatL.of 26 [2] Tryz.func27 (by kernel_rfl) (by kernel_rfl) rfl rfl rfl rfl ?_
  repeat' (first|(apply OK_seq)|(apply thenQ_n)|(apply OK_region)|(refine OKx_make (N := n) rfl rfl rfl (by omega) (by omega) ?_; intro gc)|(apply OKx_nilK)|(apply OK_block)|(apply blockQ_n)|(apply blockQ_s)|(apply thenQ_e)|(apply blockQ_e;exact rfl)|(apply thenQ_r)|(apply blockQ_r)|(apply OK_condT;exact rfl)|(apply OK_condF;exact rfl)|(apply OK_skip)|(apply OK_exit)|(apply OK_ret)|(apply OKx_move;(conv=>lhs;whnf)<;>exact rfl)|(apply OKx_assign;(conv=>lhs;whnf)<;>exact rfl)|(apply OKx_ldB;exact rfl;(first | exact at0|exact at1|exact at2|exact at3|exact at4|exact at5|exact at6|exact at7);exact rfl)|(apply OKx_ldR;(conv=>lhs;whnf)<;>exact rfl;(with_reducible assumption))|(apply OKx_len;exact rfl)|(apply OKx_lenR;(conv=>lhs;whnf)<;>exact rfl;(with_reducible assumption))|(apply OKx_lenR2;(conv=>lhs;whnf)<;>exact rfl;(with_reducible assumption))|(apply OKx_lenO;(conv=>lhs;whnf)<;>exact rfl;(first | exact at0|exact at1|exact at2|exact at3|exact at4|exact at5|exact at6|exact at7))|(apply OKx_lss;exact rfl;exact rfl;all_goals (intro _; try (exfalso;omega)))|(apply OKx_idxO;exact rfl;exact rfl;omega)|(apply OKx_idxR;(conv=>lhs;whnf)<;>exact rfl;(with_reducible assumption);exact rfl;omega;intro _ _)|(apply OKx_idxOz;exact rfl;exact rfl;omega;omega)|(apply OKx_idxRz;(conv=>lhs;whnf)<;>exact rfl;(with_reducible assumption);exact rfl;omega;omega;intro _ _)|(apply OKx_inc;exact rfl;exact rfl;omega)|(apply OKx_addN;exact rfl;exact rfl;omega)|(apply OKx_add;exact rfl;exact rfl;omega;omega)|(apply OKx_stI;exact rfl;exact rfl;(first | exact at0|exact at1|exact at2|exact at3|exact at4|exact at5|exact at6|exact at7);omega;exact rfl)|(apply OKx_stB;exact rfl;(conv=>lhs;whnf)<;>exact rfl;exact rfl;exact rfl;(first | exact at0|exact at1|exact at2|exact at3|exact at4|exact at5|exact at6|exact at7);exact rfl;exact rfl;exact rfl)|(apply OKx_slit1;(conv=>lhs;whnf)<;>exact rfl;exact rfl;intro _))
  refine OK_loop1 9 [4, 9, 10, 11, 12, 13, 14, 15, 16, 17, 18, 19, 20, 21, 22, 23, 24] (fun m x L => ∃ (k : Nat) (vs : List Value) (Z : List Res), k + m = n ∧ x = .int .i64 (k : Int) ∧ vs.length = n ∧ (∀ w0 w, Hp w0.heap.size w0 w Z → ∀ j, j < k → Ints w (vs.getD j undef) ((uniL n).getD j [])) ∧ L = .row 22 1 (.slice (some ⟨gc, 0, none⟩) n n) n vs :: Z) n _ (Ent.refl _ _) ⟨0, List.replicate n (.slice none 0 0), [], by omega, rfl, by simp, fun _ _ _ j hj => absurd hj (by omega), rfl⟩ ?_
  rintro m x L G ⟨k, vs, Z, hm, rfl, hvl, hZ, rfl⟩
  by_cases hk : k < n
  · have hat := uniL_at n k hk
    have h1 : ∀ w1 : World, ∀ v : Value, Ints w1 v [1] → Sat Tryz.prog 48 [v, .int .i64 (n : Int)] w1 (RepR 1 n) := fun w1 v hv => rep_sat v 1 n w1 hv (by omega)
    repeat' (first|(apply OK_seq)|(apply thenQ_n)|(apply OK_region)|(apply OKx_gc 48;exact rfl; refine OKx_call (f := 48) rfl rfl (fun w1 hp => h1 w1 _ (hp.ints (xs := [1]) 0 rfl (by omega))) ?_; rintro _ _ ⟨gr, rfl, rfl⟩; simp only [List.cons_append, List.nil_append])|(apply OKx_gs; refine OKx_stW 2 rfl rfl rfl rfl rfl (by omega) rfl rfl ?_; simp only [List.set_cons_succ, List.set_cons_zero])|(apply OKx_gl; refine OKx_ldW 2 rfl rfl hk (by rw [List.getElem?_set_self (by omega)]) ?_)|(apply OKx_nilK)|(apply OK_block)|(apply blockQ_n)|(apply blockQ_s)|(apply thenQ_e)|(apply blockQ_e;exact rfl)|(apply thenQ_r)|(apply blockQ_r)|(apply OK_condT;exact rfl)|(apply OK_condF;exact rfl)|(apply OK_skip)|(apply OK_exit)|(apply OK_ret)|(apply OKx_move;(conv=>lhs;whnf)<;>exact rfl)|(apply OKx_assign;(conv=>lhs;whnf)<;>exact rfl)|(apply OKx_ldB;exact rfl;(first | exact at0|exact at1|exact at2|exact at3|exact at4|exact at5|exact at6|exact at7);exact rfl)|(apply OKx_ldR;(conv=>lhs;whnf)<;>exact rfl;(with_reducible assumption))|(apply OKx_len;exact rfl)|(apply OKx_lenR;(conv=>lhs;whnf)<;>exact rfl;(with_reducible assumption))|(apply OKx_lenR2;(conv=>lhs;whnf)<;>exact rfl;(with_reducible assumption))|(apply OKx_lenO;(conv=>lhs;whnf)<;>exact rfl;(first | exact at0|exact at1|exact at2|exact at3|exact at4|exact at5|exact at6|exact at7))|(apply OKx_lss;exact rfl;exact rfl;all_goals (intro _; try (exfalso;omega)))|(apply OKx_idxO;exact rfl;exact rfl;omega)|(apply OKx_idxR;(conv=>lhs;whnf)<;>exact rfl;(with_reducible assumption);exact rfl;omega;intro _ _)|(apply OKx_idxOz;exact rfl;exact rfl;omega;omega)|(apply OKx_idxRz;(conv=>lhs;whnf)<;>exact rfl;(with_reducible assumption);exact rfl;omega;omega;intro _ _)|(apply OKx_inc;exact rfl;exact rfl;omega)|(apply OKx_addN;exact rfl;exact rfl;omega)|(apply OKx_add;exact rfl;exact rfl;omega;omega)|(apply OKx_stI;exact rfl;exact rfl;(first | exact at0|exact at1|exact at2|exact at3|exact at4|exact at5|exact at6|exact at7);omega;exact rfl)|(apply OKx_stB;exact rfl;(conv=>lhs;whnf)<;>exact rfl;exact rfl;exact rfl;(first | exact at0|exact at1|exact at2|exact at3|exact at4|exact at5|exact at6|exact at7);exact rfl;exact rfl;exact rfl)|(apply OKx_slit1;(conv=>lhs;whnf)<;>exact rfl;exact rfl;intro _))
    refine ⟨by (repeat' (first | refine agree_upd rfl ?_ | exact agree_over | exact agree_refl _ _ | refine agree_over2 rfl ?_)), m - 1, _, by omega, Ent.pickT [_, _, _] Z [2, 0] rfl, ?_⟩
    refine ⟨k + 1, vs.set k (.slice (some ⟨gr, 0, none⟩) n n), .row 3 1 (.slice (some ⟨gr, 0, none⟩) n n) n (ints ((List.replicate n 1).set k 0)) :: Z, by omega, rfl, by simp [hvl], fun w0 w1 hp j hj => ?_, rfl⟩
    by_cases e : j = k
    · subst e
      rw [List.getD_eq_getElem?_getD, List.getElem?_set_self (by omega), hat]
      have := hp.ints (xs := (List.replicate n 1).set j 0) 0 rfl (by omega)
      exact this
    · rw [List.getD_eq_getElem?_getD, List.getElem?_set_ne (by omega), ← List.getD_eq_getElem?_getD]
      exact hZ w0 w1 hp.drop1 j (by omega)
  · obtain rfl : k = n := by omega
    repeat' (first|(apply OK_seq)|(apply thenQ_n)|(apply OK_region)|(apply OKx_nilK)|(apply OK_block)|(apply blockQ_n)|(apply blockQ_s)|(apply thenQ_e)|(apply blockQ_e;exact rfl)|(apply thenQ_r)|(apply blockQ_r)|(apply OK_condT;exact rfl)|(apply OK_condF;exact rfl)|(apply OK_skip)|(apply OK_exit)|(apply OK_ret)|(apply OKx_move;(conv=>lhs;whnf)<;>exact rfl)|(apply OKx_assign;(conv=>lhs;whnf)<;>exact rfl)|(apply OKx_ldB;exact rfl;(first | exact at0|exact at1|exact at2|exact at3|exact at4|exact at5|exact at6|exact at7);exact rfl)|(apply OKx_ldR;(conv=>lhs;whnf)<;>exact rfl;(with_reducible assumption))|(apply OKx_len;exact rfl)|(apply OKx_lenR;(conv=>lhs;whnf)<;>exact rfl;(with_reducible assumption))|(apply OKx_lenR2;(conv=>lhs;whnf)<;>exact rfl;(with_reducible assumption))|(apply OKx_lenO;(conv=>lhs;whnf)<;>exact rfl;(first | exact at0|exact at1|exact at2|exact at3|exact at4|exact at5|exact at6|exact at7))|(apply OKx_lss;exact rfl;exact rfl;all_goals (intro _; try (exfalso;omega)))|(apply OKx_idxO;exact rfl;exact rfl;omega)|(apply OKx_idxR;(conv=>lhs;whnf)<;>exact rfl;(with_reducible assumption);exact rfl;omega;intro _ _)|(apply OKx_idxOz;exact rfl;exact rfl;omega;omega)|(apply OKx_idxRz;(conv=>lhs;whnf)<;>exact rfl;(with_reducible assumption);exact rfl;omega;omega;intro _ _)|(apply OKx_inc;exact rfl;exact rfl;omega)|(apply OKx_addN;exact rfl;exact rfl;omega)|(apply OKx_add;exact rfl;exact rfl;omega;omega)|(apply OKx_stI;exact rfl;exact rfl;(first | exact at0|exact at1|exact at2|exact at3|exact at4|exact at5|exact at6|exact at7);omega;exact rfl)|(apply OKx_stB;exact rfl;(conv=>lhs;whnf)<;>exact rfl;exact rfl;exact rfl;(first | exact at0|exact at1|exact at2|exact at3|exact at4|exact at5|exact at6|exact at7);exact rfl;exact rfl;exact rfl)|(apply OKx_slit1;(conv=>lhs;whnf)<;>exact rfl;exact rfl;intro _))
    refine bodyQ_r1 (by ((conv=>lhs;whnf)<;>exact rfl)) ?_
    refine ⟨_, Ent.refl _ _, gc, rfl, fun w0 w1 hp => ?_⟩
    exact hp.tabs 0 rfl (by omega) (by simp [uniL]) (fun j hj => hZ w0 w1 hp.drop1 j hj)
end Go.Proofs.YtpknpbeiifjmgaaGreat
