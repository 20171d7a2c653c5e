/-
  Part 29 of the proof: Tp33. No statement of the seat is proved here.
-/
import Derived.Test.YtpknpbeiifjmgaaGreatMHPs3328
namespace Go.Proofs.YtpknpbeiifjmgaaGreat
open Go.RowKit
def t7 : Tre := ⟨[-1, 0, 1, 1, 0, 4, 4], [⟨#[]⟩, ⟨#[]⟩, ⟨#[65]⟩, ⟨#[66]⟩, ⟨#[]⟩, ⟨#[67]⟩, ⟨#[68]⟩]⟩
theorem t7_facts : treC t7 = 0 ∧ nmT t7 = [⟨#[65]⟩, ⟨#[66]⟩, ⟨#[67]⟩, ⟨#[68]⟩] ∧ fitE t7 [0, 0, 1, 1] = 0 ∧ fitX t7 [0, 0, 1, 1] = 1 ∧ fitE t7 [0, 1, 0, 1] = 0 ∧ fitX t7 [0, 1, 0, 1] = 2 := by decide +kernel
theorem t7_splits : (∀ v, v < 7 → okS t7 v = true → nrmL t7 v = [2, 3]) ∧ okS t7 1 = true ∧ nrmL t7 1 = [2, 3] := by decide +kernel
theorem Of7 (v : Value) (na : Option Addr) (nc : Nat) (w : World) (ht : Tri w v t7) (hS : Strs w (.slice na 4 nc) [⟨#[65]⟩, ⟨#[66]⟩, ⟨#[67]⟩, ⟨#[68]⟩]) :
    Sat Tryz.prog 12 [v, .slice na 4 nc] w (fun u L => ∃ g c v0, u = .tuple #[.slice (some ⟨g, 0, none⟩) 1 c, .int .i64 0] ∧ ∀ w0 w, Hp w0.heap.size w0 w L → w.cell? ⟨g, 0, none⟩ = some v0 ∧ Ints w v0 [2, 3]) := by
  obtain ⟨f1, f2, _⟩ := t7_facts
  obtain ⟨s1, s2, s3⟩ := t7_splits
  obtain ⟨pv, nv, rfl, hP, hN⟩ := ht
  have hln : (nmT t7).length = 4 := by rw [f2]; rfl
  have h := Of_sat pv nv na nc t7 w ⟨pv, nv, rfl, hP, hN⟩ (by rw [hln, f2]; exact hS) f1 (by decide)
  rw [hln] at h
  refine h.mono fun u L hR => ?_
  obtain ⟨a, c, outs, hu, ha, ⟨vs, hvl, hrd⟩, hm, h1⟩ := hR
  have hall : ∀ x ∈ outs, x = [2, 3] := fun x hx => by
    obtain ⟨v, hv0, hvn, hk, rfl⟩ := (hm x).1 hx
    exact s1 v hvn hk
  have hin : [2, 3] ∈ outs := (hm _).2 ⟨1, by decide, by decide, s2, s3.symm⟩
  have hl1 := h1 (fun x hx y hy => by rw [hall x hx, hall y hy])
  obtain ⟨y, rfl⟩ : ∃ y, outs = [y] := by
    cases outs with
    | nil => cases hin
    | cons y ys =>
      cases ys with
      | nil => exact ⟨y, rfl⟩
      | cons z zs => simp at hl1
  obtain rfl : y = [2, 3] := hall y List.mem_cons_self
  obtain ⟨g, rfl⟩ := ha (by simp)
  refine ⟨g, c, vs.getD 0 undef, hu, fun w0 w1 hp => ?_⟩
  obtain ⟨h2, h3⟩ := hrd w0 w1 hp
  refine ⟨?_, h3 0 (by simp)⟩
  obtain ⟨a2, c2, hv, hc⟩ := h2.out
  simp only [Value.slice.injEq] at hv
  obtain ⟨rfl, _, rfl⟩ := hv
  rcases hc with h0 | ⟨b, off, hb, hc⟩
  · simp at h0
  · simp only [Option.some.injEq, Addr.mk.injEq] at hb
    obtain ⟨rfl, rfl, _⟩ := hb
    exact hc 0 (by simp)
set_option maxRecDepth 100000 in
set_option maxHeartbeats 4000000 in
theorem awake33_sat (w : World) : SatV Tryz.prog 6 [] w (.bool true) := by
  obtain ⟨f1, f2, f3, f4, f5, f6⟩ := t7_facts
  have hF1 : ∀ v sv w1, Tri w1 v t7 → Ints w1 sv [0, 0, 1, 1] → SatV Tryz.prog 10 [v, sv] w1 (.tuple #[.int .i64 1, .int .i64 0]) := fun v sv w1 h h2 => by
    have := Fitch_sat v sv t7 _ w1 h h2
    rwa [f3, if_pos rfl, f4] at this
  have hF2 : ∀ v sv w1, Tri w1 v t7 → Ints w1 sv [0, 1, 0, 1] → SatV Tryz.prog 10 [v, sv] w1 (.tuple #[.int .i64 2, .int .i64 0]) := fun v sv w1 h h2 => by
    have := Fitch_sat v sv t7 _ w1 h h2
    rwa [f5, if_pos rfl, f6] at this
  have hsN : ∀ s ∈ t7.names, s.size ≤ 140737488355328 := by decide
  have hsM : ∀ s ∈ [(⟨#[65]⟩ : ByteArray), ⟨#[66]⟩, ⟨#[67]⟩, ⟨#[68]⟩], s.size ≤ 140737488355328 := by decide
  have hsl : ∀ (w1 : World) (g c : Nat) (v0 : Value), w1.cell? ⟨g, 0, none⟩ = some v0 → True := fun _ _ _ _ _ => trivial
  refine SatL.of 59 [0] Tryz.func6 (by kernel_rfl) (by kernel_rfl) rfl rfl rfl rfl ?_
  repeat' (first|(apply OK_seq)|(apply thenQ_n)|(apply OK_region)|(apply OKx_gt; refine OKx_slit (vs := [.int .i64 (-1), .int .i64 0, .int .i64 1, .int .i64 1, .int .i64 0, .int .i64 4, .int .i64 4]) (cs := [[.int .i64 (-1)], [.int .i64 0], [.int .i64 1], [.int .i64 1], [.int .i64 0], [.int .i64 4], [.int .i64 4]]) (ints t7.par) rfl rfl rfl rfl rfl rfl ?_; intro gd)|(apply OKx_gt; refine OKx_slit (vs := t7.names.map Value.string) (cs := t7.names.map fun s => [Value.string s]) (strs t7.names) rfl rfl rfl rfl rfl rfl ?_; intro gd)|(apply OKx_gt; refine OKx_slit (vs := [.int .i64 0, .int .i64 0, .int .i64 1, .int .i64 1]) (cs := [[.int .i64 0], [.int .i64 0], [.int .i64 1], [.int .i64 1]]) (ints [0, 0, 1, 1]) rfl rfl rfl rfl rfl rfl ?_; intro gd)|(apply OKx_gt; refine OKx_slit (vs := [.int .i64 0, .int .i64 1, .int .i64 0, .int .i64 1]) (cs := [[.int .i64 0], [.int .i64 1], [.int .i64 0], [.int .i64 1]]) (ints [0, 1, 0, 1]) rfl rfl rfl rfl rfl rfl ?_; intro gd)|(apply OKx_gt; refine OKx_slit (vs := [.string ⟨#[65]⟩, .string ⟨#[66]⟩, .string ⟨#[67]⟩, .string ⟨#[68]⟩]) (cs := [[.string ⟨#[65]⟩], [.string ⟨#[66]⟩], [.string ⟨#[67]⟩], [.string ⟨#[68]⟩]]) (strs [⟨#[65]⟩, ⟨#[66]⟩, ⟨#[67]⟩, ⟨#[68]⟩]) rfl rfl rfl rfl rfl rfl ?_; intro gd)|(apply OKx_gc 10;exact rfl; refine OKx_callV (f := 10) rfl rfl rfl (fun w1 hp => hF1 _ _ w1 ⟨_, _, rfl, hp.ints 3 rfl (by decide), hp.strs 2 rfl (by decide) hsN⟩ (hp.ints 0 rfl (by decide))) ?_)|(apply OKx_gc 10;exact rfl; refine OKx_callV (f := 10) rfl rfl rfl (fun w1 hp => hF2 _ _ w1 ⟨_, _, rfl, hp.ints 4 rfl (by decide), hp.strs 3 rfl (by decide) hsN⟩ (hp.ints 0 rfl (by decide))) ?_)|(apply OKx_gc 12;exact rfl; refine OKx_call (f := 12) rfl rfl (fun w1 hp => Of7 _ _ _ w1 ⟨_, _, rfl, hp.ints 5 rfl (by decide), hp.strs 4 rfl (by decide) hsN⟩ (hp.strs 0 rfl (by decide) hsM)) ?_; rintro _ Z ⟨gz, cz, v0, rfl, hZ⟩; refine OKx_ent (Ent.sub (List.sublist_append_left _ _)) ?_)|(apply OKx_gl; refine OKx_ldH rfl (fun w1 hp => (hZ w w1 hp).1) ?_)|(apply OKx_gc 15;exact rfl; refine OKx_callV (f := 15) (v := .bool true) rfl rfl rfl (fun w1 hp => equal_int_sat v0 _ [2, 3] [2, 3] w1 (hZ w w1 hp.drop1).2 (hp.ints 0 rfl (by decide))) ?_)|(apply OKx_nilK)|(apply OK_block)|(apply blockQ_n)|(apply blockQ_s)|(apply thenQ_e)|(apply blockQ_e;exact rfl)|(apply thenQ_r)|(apply blockQ_r)|(apply OK_condT;exact rfl)|(apply OK_condF;exact rfl)|(apply OK_skip)|(apply OK_exit)|(apply OK_ret)|(apply OKx_move;(conv=>lhs;whnf)<;>exact rfl)|(apply OKx_assign;(conv=>lhs;whnf)<;>exact rfl)|(apply OKx_ldB;exact rfl;(first | exact at0|exact at1|exact at2|exact at3|exact at4|exact at5|exact at6|exact at7);exact rfl)|(apply OKx_ldR;(conv=>lhs;whnf)<;>exact rfl;(with_reducible assumption))|(apply OKx_len;exact rfl)|(apply OKx_lenR;(conv=>lhs;whnf)<;>exact rfl;(with_reducible assumption))|(apply OKx_lenR2;(conv=>lhs;whnf)<;>exact rfl;(with_reducible assumption))|(apply OKx_lenO;(conv=>lhs;whnf)<;>exact rfl;(first | exact at0|exact at1|exact at2|exact at3|exact at4|exact at5|exact at6|exact at7))|(apply OKx_eql;exact rfl;exact rfl;all_goals (intro _; try (exfalso;omega)))|(apply OKx_idxO;exact rfl;exact rfl;omega)|(apply OKx_idxR;(conv=>lhs;whnf)<;>exact rfl;(with_reducible assumption);exact rfl;omega;intro _ _)|(apply OKx_idxOz;exact rfl;exact rfl;omega;omega)|(apply OKx_idxRz;(conv=>lhs;whnf)<;>exact rfl;(with_reducible assumption);exact rfl;omega;omega;intro _ _)|(apply OKx_pickT;exact rfl;(conv=>lhs;whnf)<;>exact rfl)|(apply OKx_pickF;exact rfl;(conv=>lhs;whnf)<;>exact rfl)|(apply OKx_guardT;exact rfl;exact rfl)|(apply OKx_guardF;exact rfl;exact rfl)|(apply OKx_guardU;exact rfl;exact rfl)|(apply OKx_extract;exact rfl;(conv=>lhs;whnf)<;>exact rfl)|(apply OKx_allocA;intro _)|(apply OKx_ldBA;exact rfl;(first | exact at0|exact at1|exact at2|exact at3|exact at4|exact at5|exact at6|exact at7);exact rfl)|(apply OKx_ldRA;(conv=>lhs;whnf)<;>exact rfl;(with_reducible assumption))|(apply OKx_slit2;(conv=>lhs;whnf)<;>exact rfl;(conv=>lhs;whnf)<;>exact rfl;exact rfl;exact rfl;intro _)|(apply OKx_build2;(conv=>lhs;whnf)<;>exact rfl;(conv=>lhs;whnf)<;>exact rfl;exact rfl;exact rfl)|(apply OKx_stBA; kernel_rfl;exact rfl;exact rfl;exact rfl;(first | exact at0|exact at1|exact at2|exact at3|exact at4|exact at5|exact at6|exact at7);exact rfl;exact rfl;exact rfl))
  refine bodyQ_r1 (by ((conv=>lhs;whnf)<;>exact rfl)) ?_
  exact ⟨_, Ent.nil, rfl, rfl⟩
set_option maxRecDepth 100000 in
set_option maxHeartbeats 4000000 in
theorem eq1_sat (x p sv : Value) (xs s : List Int) (w : World) (hp : Pt1 w p sv) (hx : Ints w x xs) (hs : Ints w sv s) : SatV Tryz.prog 14 [x, p] w (.bool (xs == s)) := by
  refine SatL.of 7 [3] Tryz.func14 (by kernel_rfl) (by kernel_rfl) rfl rfl rfl rfl ?_
  repeat' (first|(apply OK_seq)|(apply thenQ_n)|(apply OK_region)|(apply OKx_gc 15;exact rfl; refine OKx_callV (f := 15) rfl rfl rfl (fun w1 hp => equal_int_sat _ _ xs s w1 (hx.below hp.below) (hs.below hp.below)) ?_)|(apply OKx_nilK)|(apply OK_block)|(apply blockQ_n)|(apply blockQ_s)|(apply thenQ_e)|(apply blockQ_e;exact rfl)|(apply thenQ_r)|(apply blockQ_r)|(apply OK_condT;exact rfl)|(apply OK_condF;exact rfl)|(apply OK_skip)|(apply OK_exit)|(apply OK_ret)|(apply OKx_move;(conv=>lhs;whnf)<;>exact rfl)|(apply OKx_assign;(conv=>lhs;whnf)<;>exact rfl)|(apply OKx_ldB;exact rfl;(first | exact at0|exact at1|exact at2|exact at3|exact at4|exact at5|exact at6|exact at7);exact rfl)|(apply OKx_ldR;(conv=>lhs;whnf)<;>exact rfl;(with_reducible assumption)))
  refine bodyQ_r1 (by ((conv=>lhs;whnf)<;>exact rfl)) ?_
  exact ⟨_, Ent.nil, rfl, rfl⟩
theorem knwE_more {st : List Int} {n : Nat} (h : st.length = n) (hr : ∀ x ∈ st, 0 ≤ x ∧ x < 16) : knwE st n (-1) 16 = 0 := by
  unfold knwE
  rw [if_neg (fun h2 => h2 h), if_neg]
  rw [Bool.not_eq_true, List.any_eq_false]
  intro x hx
  have := hr x hx
  unfold badK
  simp
  omega
theorem gr33_false {t : Tre} {st : List Int} (h : gr33 t st = false) : t.par.length ≤ 12 ∧ st.length ≤ 12 := by
  unfold gr33 at h
  rw [Bool.or_eq_false_iff] at h
  have := of_decide_eq_false h.2
  omega
theorem anyOuts (outs : List (List Int)) (s : List Int) : anyN (fun j => outs.getD j [] == s) outs.length = decide (s ∈ outs) := by
  unfold anyN
  rw [Bool.eq_iff_iff, List.any_eq_true, decide_eq_true_eq]
  constructor
  · rintro ⟨j, hj, e⟩
    rw [List.mem_range] at hj
    rw [getD_lt _ _ _ hj] at e
    have e2 : outs[j] = s := by simpa using e
    rw [← e2]
    exact List.getElem_mem hj
  · intro h
    obtain ⟨j, hj, e⟩ := List.getElem_of_mem h
    exact ⟨j, List.mem_range.2 hj, by rw [getD_lt _ _ _ hj, e]; simp⟩
set_option maxRecDepth 100000 in
set_option maxHeartbeats 4000000 in
theorem hasOut_sat (oa : Option Addr) (oc : Nat) (outs : List (List Int)) (vs : List Value) (g : Nat) (sv : Value) (s : List Int) (b : Bool) (w1 : World)
    (hany : anyN (fun j => outs.getD j [] == s) outs.length = b)
    (h : Sl w1 (.slice oa outs.length oc) 1 outs.length (fun j => vs.getD j undef) ∧ ∀ j, j < outs.length → Ints w1 (vs.getD j undef) (outs.getD j []))
    (hg : w1.cell? ⟨g, 0, none⟩ = some sv) (hs : Ints w1 sv s) :
    SatV Tryz.prog 13 [.slice oa outs.length oc, .func (.func 14) #[] #[.pointer (some ⟨g, 0, none⟩)]] w1 (.bool b) := by
  rw [← hany]
  exact containsF_tab_sat _ outs.length (fun j => vs.getD j undef) (fun j => outs.getD j [] == s) _ _ w1 h.1 (fun j hj w2 hb2 => eq1_sat _ _ sv _ s w2 (Pt1.below ⟨_, _, rfl, hg⟩ hb2) ((h.2 j hj).below hb2) (hs.below hb2))
set_option maxRecDepth 100000 in
set_option maxHeartbeats 4000000 in
theorem TopPS_sat (v sv : Value) (t : Tre) (st : List Int) (w : World) (h : Tri w v t) (hS : Ints w sv st) : SatV Tryz.prog 3 [v, sv] w (.bool true) := by
  have ht := h
  obtain ⟨pv, nv, rfl, hP, hN⟩ := h
  obtain ⟨sa, sc, rfl, _⟩ := hS.at
  have hsv := hS.sl
  have haw := fun w1 => awake33_sat w1
  have hT := fun w1 (hb : Below w.heap.size w w1) => top33L_sat _ _ t st w1 (ht.below hb) (hS.below hb)
  have hco := fun w1 (hb : Below w.heap.size w w1) => contains_int_sat _ st (-1) w1 (hS.below hb)
  by_cases hok : gr33 t st = false ∧ chk33 t st = 0
  rotate_left
  · have hT2 := fun w1 (hb : Below w.heap.size w w1) => (hT w1 hb).mono (R' := fun u L => u = .tuple #[.slice none 0 0, .slice none 0 0, .bool false] ∧ L = []) (by
      rintro u L (⟨_, h2, h3⟩ | ⟨h1, _⟩)
      · exact ⟨h2, h3⟩
      · exact absurd h1 hok)
    refine SatL.of 91 [4] Tryz.func3 (by kernel_rfl) (by kernel_rfl) rfl rfl rfl rfl ?_
    repeat' (first|(apply OK_seq)|(apply thenQ_n)|(apply OK_region)|(apply OKx_gc 4;exact rfl; refine OKx_call (f := 4) rfl rfl (fun w1 hp => hT2 w1 hp.below) ?_; rintro _ _ ⟨rfl, rfl⟩; rw [List.nil_append])|(apply OKx_gc 6;exact rfl; refine OKx_callV (f := 6) rfl rfl rfl (fun w1 hp => haw w1) ?_)|(apply OKx_nilK)|(apply OK_block)|(apply blockQ_n)|(apply blockQ_s)|(apply thenQ_e)|(apply blockQ_e;exact rfl)|(apply thenQ_r)|(apply blockQ_r)|(apply OK_condT;exact rfl)|(apply OK_condF;exact rfl)|(apply OK_skip)|(apply OK_exit)|(apply OK_ret)|(apply OKx_move;(conv=>lhs;whnf)<;>exact rfl)|(apply OKx_assign;(conv=>lhs;whnf)<;>exact rfl)|(apply OKx_len;exact rfl)|(apply OKx_lenR;(conv=>lhs;whnf)<;>exact rfl;(with_reducible assumption))|(apply OKx_lenR2;(conv=>lhs;whnf)<;>exact rfl;(with_reducible assumption))|(apply OKx_lenO;(conv=>lhs;whnf)<;>exact rfl;(first | exact at0|exact at1|exact at2|exact at3|exact at4|exact at5|exact at6|exact at7))|(apply OKx_lss;exact rfl;exact rfl;all_goals (intro _; try (exfalso;omega)))|(apply OKx_geq;exact rfl;exact rfl;all_goals (intro _; try (exfalso;omega)))|(apply OKx_eql;exact rfl;exact rfl;all_goals (intro _; try (exfalso;omega)))|(apply OKx_neq;exact rfl;exact rfl;all_goals (intro _; try (exfalso;omega)))|(apply OKx_pickT;exact rfl;(conv=>lhs;whnf)<;>exact rfl)|(apply OKx_pickF;exact rfl;(conv=>lhs;whnf)<;>exact rfl)|(apply OKx_guardT;exact rfl;exact rfl)|(apply OKx_guardF;exact rfl;exact rfl)|(apply OKx_guardU;exact rfl;exact rfl)|(apply OKx_notT;exact rfl)|(apply OKx_notF;exact rfl)|(apply OKx_extract;exact rfl;(conv=>lhs;whnf)<;>exact rfl)|(apply OKx_boxA;exact rfl;intro _)|(apply OKx_alloc1;intro _)|(apply OKx_ldBA;exact rfl;(first | exact at0|exact at1|exact at2|exact at3|exact at4|exact at5|exact at6|exact at7);exact rfl)|(apply OKx_ldRA;(conv=>lhs;whnf)<;>exact rfl;(with_reducible assumption))|(apply OKx_stB;exact rfl;(conv=>lhs;whnf)<;>exact rfl;exact rfl;exact rfl;(first | exact at0|exact at1|exact at2|exact at3|exact at4|exact at5|exact at6|exact at7);exact rfl;exact rfl;exact rfl)|(apply OKx_func;exact rfl;exact rfl))
    refine bodyQ_r1 (by ((conv=>lhs;whnf)<;>exact rfl)) ?_
    exact ⟨_, Ent.nil, rfl, rfl⟩
  have hT2 := fun w1 (hb : Below w.heap.size w w1) => (hT w1 hb).mono (R' := fun u L => ∃ la lc na nc, u = .tuple #[.slice la (lvs t).length lc, .slice na (nmT t).length nc, .bool true] ∧ ∀ w0 w, Hp w0.heap.size w0 w L → Strs w (.slice na (nmT t).length nc) (nmT t)) (by
    rintro u L (⟨h1, _⟩ | ⟨_, h2⟩)
    · exact absurd hok h1
    · exact h2)
  cases hq : hasI st (-1) with
  | true =>
    rw [hq] at hco
    refine SatL.of 91 [4] Tryz.func3 (by kernel_rfl) (by kernel_rfl) rfl rfl rfl rfl ?_
    repeat' (first|(apply OK_seq)|(apply thenQ_n)|(apply OK_region)|(apply OKx_gc 4;exact rfl; refine OKx_call (f := 4) rfl rfl (fun w1 hp => hT2 w1 hp.below) ?_; rintro _ Zn ⟨la, lc, na, nc, rfl, hZn⟩; refine OKx_ent (Ent.perm (List.perm_append_comm (l₁ := Zn))) ?_; simp only [List.cons_append, List.nil_append])|(apply OKx_gc 5;exact rfl; refine OKx_callV (f := 5) rfl rfl rfl (fun w1 hp => hco w1 hp.below) ?_)|(apply OKx_gc 6;exact rfl; refine OKx_callV (f := 6) rfl rfl rfl (fun w1 hp => haw w1) ?_)|(apply OKx_nilK)|(apply OK_block)|(apply blockQ_n)|(apply blockQ_s)|(apply thenQ_e)|(apply blockQ_e;exact rfl)|(apply thenQ_r)|(apply blockQ_r)|(apply OK_condT;exact rfl)|(apply OK_condF;exact rfl)|(apply OK_skip)|(apply OK_exit)|(apply OK_ret)|(apply OKx_move;(conv=>lhs;whnf)<;>exact rfl)|(apply OKx_assign;(conv=>lhs;whnf)<;>exact rfl)|(apply OKx_len;exact rfl)|(apply OKx_lenR;(conv=>lhs;whnf)<;>exact rfl;(with_reducible assumption))|(apply OKx_lenR2;(conv=>lhs;whnf)<;>exact rfl;(with_reducible assumption))|(apply OKx_lenO;(conv=>lhs;whnf)<;>exact rfl;(first | exact at0|exact at1|exact at2|exact at3|exact at4|exact at5|exact at6|exact at7))|(apply OKx_lss;exact rfl;exact rfl;all_goals (intro _; try (exfalso;omega)))|(apply OKx_geq;exact rfl;exact rfl;all_goals (intro _; try (exfalso;omega)))|(apply OKx_eql;exact rfl;exact rfl;all_goals (intro _; try (exfalso;omega)))|(apply OKx_neq;exact rfl;exact rfl;all_goals (intro _; try (exfalso;omega)))|(apply OKx_pickT;exact rfl;(conv=>lhs;whnf)<;>exact rfl)|(apply OKx_pickF;exact rfl;(conv=>lhs;whnf)<;>exact rfl)|(apply OKx_guardT;exact rfl;exact rfl)|(apply OKx_guardF;exact rfl;exact rfl)|(apply OKx_guardU;exact rfl;exact rfl)|(apply OKx_notT;exact rfl)|(apply OKx_notF;exact rfl)|(apply OKx_extract;exact rfl;(conv=>lhs;whnf)<;>exact rfl)|(apply OKx_boxA;exact rfl;intro _)|(apply OKx_alloc1;intro _)|(apply OKx_ldBA;exact rfl;(first | exact at0|exact at1|exact at2|exact at3|exact at4|exact at5|exact at6|exact at7);exact rfl)|(apply OKx_ldRA;(conv=>lhs;whnf)<;>exact rfl;(with_reducible assumption))|(apply OKx_stB;exact rfl;(conv=>lhs;whnf)<;>exact rfl;exact rfl;exact rfl;(first | exact at0|exact at1|exact at2|exact at3|exact at4|exact at5|exact at6|exact at7);exact rfl;exact rfl;exact rfl)|(apply OKx_func;exact rfl;exact rfl))
    refine bodyQ_r1 (by ((conv=>lhs;whnf)<;>exact rfl)) ?_
    exact ⟨_, Ent.nil, rfl, rfl⟩
  | false =>
  rw [hq] at hco
  obtain ⟨hc, hk4⟩ := chk33_zero hok.2
  obtain ⟨hsl, hr4⟩ := knwE_zero hk4
  have hpos : ∀ x ∈ st, 0 ≤ x ∧ x < 16 := fun x hx => by
    have h1 := hr4 x hx
    have : x ≠ -1 := by
      rintro rfl
      have : hasI st (-1) = true := by unfold hasI; rw [List.contains_iff_mem]; exact hx
      rw [hq] at this; cases this
    omega
  have hk16 := knwE_more hsl hpos
  obtain ⟨hn12, hs12⟩ := gr33_false hok.1
  have hfe : fitE t st = 0 := by unfold fitE; rw [if_neg (fun h2 => h2 hc)]; exact hk16
  obtain ⟨l0, _, _, _, _⟩ := treC_len hc
  have hl1 : 0 < (lvs t).length := Nat.pos_of_ne_zero fun e => belL_ne hc t.par.length 0 (by omega) l0 (List.eq_nil_iff_forall_not_mem.2 fun x hx => by
    obtain ⟨p, hp, _⟩ := (belL_mem t 0 x).1 hx
    omega)
  have hcs : Lib.compact (srtL st) = srtK st 16 := by
    refine asc_ext _ _ (compact_asc _ (srtL_le _)) (srtK_asc _ _) fun x => ?_
    rw [compact_mem, srtL_mem, srtK_mem]
    constructor
    · intro h1; have := hpos x h1; exact ⟨h1, this.1, this.2⟩
    · rintro ⟨h1, _⟩; exact h1
  have hFi : ∀ w1, Below w.heap.size w w1 → SatV Tryz.prog 10 [.agg #[pv, nv], .slice sa st.length sc] w1 (.tuple #[.int .i64 (fitX t st), .int .i64 0]) := fun w1 hb => by
    have := Fitch_sat _ _ t st w1 (ht.below hb) (hS.below hb)
    rwa [hfe, if_pos rfl] at this
  have hdz := dif_zero hc hk16 hsl hpos
  have hval : ∀ (g : Nat) (X : List Res), SatL Tryz.prog 8 [.func (.func 23) #[] #[.pointer (some ⟨g, 0, none⟩)]] w (.box 22 g [.slice sa st.length sc] :: X) (fun u L => ∃ g2 c, u = .slice (some ⟨g2, 0, none⟩) st.length c ∧ L = .row 3 1 (.slice (some ⟨g2, 0, none⟩) st.length c) st.length (ints (srtL st)) :: .box 22 g [.slice sa st.length sc] :: X) := fun g X =>
    sorted_it_sat 23 [.pointer (some ⟨g, 0, none⟩)] _ st w ⟨_, _, Tryz.func23, by kernel_rfl, rfl⟩ (values1 hS) (by omega) (by omega)
  by_cases h2 : (srtK st 16).length = 2
  rotate_left
  · refine SatL.of 91 [4] Tryz.func3 (by kernel_rfl) (by kernel_rfl) rfl rfl rfl rfl ?_
    repeat' (first|(apply OK_seq)|(apply thenQ_n)|(apply OK_region)|(apply OKx_gc 4;exact rfl; refine OKx_call (f := 4) rfl rfl (fun w1 hp => hT2 w1 hp.below) ?_; rintro _ Zn ⟨la, lc, na, nc, rfl, hZn⟩; refine OKx_ent (Ent.perm (List.perm_append_comm (l₁ := Zn))) ?_; simp only [List.cons_append, List.nil_append])|(apply OKx_gc 5;exact rfl; refine OKx_callV (f := 5) rfl rfl rfl (fun w1 hp => hco w1 hp.below) ?_)|(apply OKx_gc 9;exact rfl; refine OKx_call (f := 9) rfl rfl (fun w1 hp => values_sat sa st.length sc w1) ?_; rintro _ _ ⟨gv, rfl, rfl⟩; rw [List.cons_append, List.nil_append])|(apply OKx_gc 8;exact rfl; refine OKx_callL (f := 8) rfl rfl (hval _ _) ?_; rintro _ _ ⟨gs, cs, rfl, rfl⟩)|(apply OKx_gc 7;exact rfl; refine OKx_callL (f := 7) rfl rfl (compact_int_sat _ _ st.length (srtL st) _ _ 0 (srtL_perm st).length_eq rfl (by omega)) ?_; rintro _ _ ⟨kk, hkk, rfl, rfl⟩; rw [hcs] at hkk; rw [List.set_cons_zero])|(apply OKx_gc 10;exact rfl; refine OKx_callV (f := 10) rfl rfl rfl (fun w1 hp => hFi w1 hp.below) ?_)|(apply OKx_gc 6;exact rfl; refine OKx_callV (f := 6) rfl rfl rfl (fun w1 hp => haw w1) ?_)|(apply OKx_gn; refine OKx_beq Tryz.underlying4 rfl rfl ?_)|(apply OKx_nilK)|(apply OK_block)|(apply blockQ_n)|(apply blockQ_s)|(apply thenQ_e)|(apply blockQ_e;exact rfl)|(apply thenQ_r)|(apply blockQ_r)|(apply OK_condT;exact rfl)|(apply OK_condF;exact rfl)|(apply OK_skip)|(apply OK_exit)|(apply OK_ret)|(apply OKx_move;(conv=>lhs;whnf)<;>exact rfl)|(apply OKx_assign;(conv=>lhs;whnf)<;>exact rfl)|(apply OKx_len;exact rfl)|(apply OKx_lenR;(conv=>lhs;whnf)<;>exact rfl;(with_reducible assumption))|(apply OKx_lenR2;(conv=>lhs;whnf)<;>exact rfl;(with_reducible assumption))|(apply OKx_lenO;(conv=>lhs;whnf)<;>exact rfl;(first | exact at0|exact at1|exact at2|exact at3|exact at4|exact at5|exact at6|exact at7))|(apply OKx_lss;exact rfl;exact rfl;all_goals (intro _; try (exfalso;omega)))|(apply OKx_geq;exact rfl;exact rfl;all_goals (intro _; try (exfalso;omega)))|(apply OKx_eql;exact rfl;exact rfl;all_goals (intro _; try (exfalso;omega)))|(apply OKx_neq;exact rfl;exact rfl;all_goals (intro _; try (exfalso;omega)))|(apply OKx_pickT;exact rfl;(conv=>lhs;whnf)<;>exact rfl)|(apply OKx_pickF;exact rfl;(conv=>lhs;whnf)<;>exact rfl)|(apply OKx_guardT;exact rfl;exact rfl)|(apply OKx_guardF;exact rfl;exact rfl)|(apply OKx_guardU;exact rfl;exact rfl)|(apply OKx_notT;exact rfl)|(apply OKx_notF;exact rfl)|(apply OKx_extract;exact rfl;(conv=>lhs;whnf)<;>exact rfl)|(apply OKx_boxA;exact rfl;intro _)|(apply OKx_alloc1;intro _)|(apply OKx_ldBA;exact rfl;(first | exact at0|exact at1|exact at2|exact at3|exact at4|exact at5|exact at6|exact at7);exact rfl)|(apply OKx_ldRA;(conv=>lhs;whnf)<;>exact rfl;(with_reducible assumption))|(apply OKx_stB;exact rfl;(conv=>lhs;whnf)<;>exact rfl;exact rfl;exact rfl;(first | exact at0|exact at1|exact at2|exact at3|exact at4|exact at5|exact at6|exact at7);exact rfl;exact rfl;exact rfl)|(apply OKx_func;exact rfl;exact rfl))
    all_goals (try (exfalso;omega))
    all_goals
      refine bodyQ_r1 (by ((conv=>lhs;whnf)<;>exact rfl)) ?_
      exact ⟨_, Ent.nil, rfl, rfl⟩
  obtain ⟨hx1, hx2⟩ := splits_law hc hk16 hsl hpos h2
  have hdl : (difI st st.length).length = (difL (fun p => st.getD p 0) st.length).length := by unfold difI; rw [List.length_map]
  have hOS := fun w1 (hb : Below w.heap.size w w1) => OfStates_sat _ st w1 (hS.below hb) hpos (by omega) h2
  have hOf : ∀ w1, Below w.heap.size w w1 → ∀ na nc, Strs w1 (.slice na (nmT t).length nc) (nmT t) → Sat Tryz.prog 12 [.agg #[pv, nv], .slice na (nmT t).length nc] w1 (OfR t) := fun w1 hb na nc hs => Of_sat pv nv na nc t w1 (ht.below hb) hs hc hn12
  have hlaw : ownB st = true → ∀ outs : List (List Int), (∀ x, x ∈ outs ↔ ∃ v, 0 < v ∧ v < t.par.length ∧ okS t v = true ∧ x = nrmL t v) → (difI st st.length ∈ outs ↔ fitX t st = 1) := fun ho outs hm => by
    unfold ownB at ho
    rw [decide_eq_true_eq] at ho
    rw [hx2, hm]
    constructor
    · rintro ⟨v, h1, h3, _, h4⟩
      exact .inr ⟨v, h1, h3, h4.symm⟩
    · rintro (h1 | ⟨v, h1, h3, h4⟩)
      · omega
      · refine ⟨v, h1, h3, ?_, h4.symm⟩
        unfold okS
        rw [decide_eq_true_eq, h4]
        show 2 ≤ (difI st st.length).length ∧ (difI st st.length).length + 2 ≤ (lvs t).length
        omega
  cases hown : ownB st with
  | false =>
    have hf1 : fitX t st = 1 := hx2.2 (.inl (by
      unfold ownB at hown
      have := of_decide_eq_false hown
      omega))
    have hOS2 := fun w1 (hb : Below w.heap.size w w1) => (hOS w1 hb).mono (R' := fun u L => u = .tuple #[.slice none 0 0, .bool false, .int .i64 0] ∧ L = []) (by
      rintro u L (⟨_, h3, h4⟩ | ⟨h1, _⟩)
      · exact ⟨h3, h4⟩
      · rw [hown] at h1; cases h1)
    refine SatL.of 91 [4] Tryz.func3 (by kernel_rfl) (by kernel_rfl) rfl rfl rfl rfl ?_
    repeat' (first|(apply OK_seq)|(apply thenQ_n)|(apply OK_region)|(apply OKx_gc 4;exact rfl; refine OKx_call (f := 4) rfl rfl (fun w1 hp => hT2 w1 hp.below) ?_; rintro _ Zn ⟨la, lc, na, nc, rfl, hZn⟩; refine OKx_ent (Ent.perm (List.perm_append_comm (l₁ := Zn))) ?_; simp only [List.cons_append, List.nil_append])|(apply OKx_gc 5;exact rfl; refine OKx_callV (f := 5) rfl rfl rfl (fun w1 hp => hco w1 hp.below) ?_)|(apply OKx_gc 9;exact rfl; refine OKx_call (f := 9) rfl rfl (fun w1 hp => values_sat sa st.length sc w1) ?_; rintro _ _ ⟨gv, rfl, rfl⟩; rw [List.cons_append, List.nil_append])|(apply OKx_gc 8;exact rfl; refine OKx_callL (f := 8) rfl rfl (hval _ _) ?_; rintro _ _ ⟨gs, cs, rfl, rfl⟩)|(apply OKx_gc 7;exact rfl; refine OKx_callL (f := 7) rfl rfl (compact_int_sat _ _ st.length (srtL st) _ _ 0 (srtL_perm st).length_eq rfl (by omega)) ?_; rintro _ _ ⟨kk, hkk, rfl, rfl⟩; rw [hcs] at hkk; rw [List.set_cons_zero])|(apply OKx_gc 10;exact rfl; refine OKx_callV (f := 10) rfl rfl rfl (fun w1 hp => hFi w1 hp.below) ?_)|(apply OKx_gc 6;exact rfl; refine OKx_callV (f := 6) rfl rfl rfl (fun w1 hp => haw w1) ?_)|(apply OKx_gn; refine OKx_beq Tryz.underlying4 rfl rfl ?_)|(apply OKx_gc 11;exact rfl; refine OKx_call (f := 11) rfl rfl (fun w1 hp => hOS2 w1 hp.below) ?_; rintro _ _ ⟨rfl, rfl⟩; rw [List.nil_append])|(apply OKx_gc 12;exact rfl; refine OKx_call (f := 12) rfl rfl (fun w1 hp => hOf w1 hp.below _ _ (hZn w w1 (hp.sub (by repeat (first | exact List.Sublist.refl _ | exact List.sublist_append_right _ _ | exact List.sublist_append_left _ _ | apply List.Sublist.cons))))) ?_; rintro _ Zo ⟨oa, oc, outs, rfl, _⟩; refine OKx_ent (Ent.sub (List.sublist_append_right Zo _)) ?_)|(apply OKx_nilK)|(apply OK_block)|(apply blockQ_n)|(apply blockQ_s)|(apply thenQ_e)|(apply blockQ_e;exact rfl)|(apply thenQ_r)|(apply blockQ_r)|(apply OK_condT;exact rfl)|(apply OK_condF;exact rfl)|(apply OK_skip)|(apply OK_exit)|(apply OK_ret)|(apply OKx_move;(conv=>lhs;whnf)<;>exact rfl)|(apply OKx_assign;(conv=>lhs;whnf)<;>exact rfl)|(apply OKx_len;exact rfl)|(apply OKx_lenR;(conv=>lhs;whnf)<;>exact rfl;(with_reducible assumption))|(apply OKx_lenR2;(conv=>lhs;whnf)<;>exact rfl;(with_reducible assumption))|(apply OKx_lenO;(conv=>lhs;whnf)<;>exact rfl;(first | exact at0|exact at1|exact at2|exact at3|exact at4|exact at5|exact at6|exact at7))|(apply OKx_lss;exact rfl;exact rfl;all_goals (intro _; try (exfalso;omega)))|(apply OKx_geq;exact rfl;exact rfl;all_goals (intro _; try (exfalso;omega)))|(apply OKx_eql;exact rfl;exact rfl;all_goals (intro _; try (exfalso;omega)))|(apply OKx_neq;exact rfl;exact rfl;all_goals (intro _; try (exfalso;omega)))|(apply OKx_pickT;exact rfl;(conv=>lhs;whnf)<;>exact rfl)|(apply OKx_pickF;exact rfl;(conv=>lhs;whnf)<;>exact rfl)|(apply OKx_guardT;exact rfl;exact rfl)|(apply OKx_guardF;exact rfl;exact rfl)|(apply OKx_guardU;exact rfl;exact rfl)|(apply OKx_notT;exact rfl)|(apply OKx_notF;exact rfl)|(apply OKx_extract;exact rfl;(conv=>lhs;whnf)<;>exact rfl)|(apply OKx_boxA;exact rfl;intro _)|(apply OKx_alloc1;intro _)|(apply OKx_ldBA;exact rfl;(first | exact at0|exact at1|exact at2|exact at3|exact at4|exact at5|exact at6|exact at7);exact rfl)|(apply OKx_ldRA;(conv=>lhs;whnf)<;>exact rfl;(with_reducible assumption))|(apply OKx_stB;exact rfl;(conv=>lhs;whnf)<;>exact rfl;exact rfl;exact rfl;(first | exact at0|exact at1|exact at2|exact at3|exact at4|exact at5|exact at6|exact at7);exact rfl;exact rfl;exact rfl)|(apply OKx_func;exact rfl;exact rfl))
    all_goals (try (exfalso;omega))
    all_goals
      refine bodyQ_r1 (by ((conv=>lhs;whnf)<;>exact rfl)) ?_
      exact ⟨_, Ent.nil, rfl, rfl⟩
  | true =>
    have hOS2 := fun w1 (hb : Below w.heap.size w w1) => (hOS w1 hb).mono (R' := fun u L => ∃ a c, u = .tuple #[.slice a (difI st st.length).length c, .bool true, .int .i64 0] ∧ L = [.row 3 1 (.slice a (difI st st.length).length c) (difI st st.length).length (ints (difI st st.length))]) (by
      rintro u L (⟨h1, _⟩ | ⟨_, h3⟩)
      · rw [hown] at h1; cases h1
      · exact h3)
    have hlaw := hlaw hown
    have hdI := difI_len st st.length
    by_cases hf1 : fitX t st = 1
    · refine SatL.of 91 [4] Tryz.func3 (by kernel_rfl) (by kernel_rfl) rfl rfl rfl rfl ?_
      repeat' (first|(apply OK_seq)|(apply thenQ_n)|(apply OK_region)|(apply OKx_gc 4;exact rfl; refine OKx_call (f := 4) rfl rfl (fun w1 hp => hT2 w1 hp.below) ?_; rintro _ Zn ⟨la, lc, na, nc, rfl, hZn⟩; refine OKx_ent (Ent.perm (List.perm_append_comm (l₁ := Zn))) ?_; simp only [List.cons_append, List.nil_append])|(apply OKx_gc 5;exact rfl; refine OKx_callV (f := 5) rfl rfl rfl (fun w1 hp => hco w1 hp.below) ?_)|(apply OKx_gc 9;exact rfl; refine OKx_call (f := 9) rfl rfl (fun w1 hp => values_sat sa st.length sc w1) ?_; rintro _ _ ⟨gv, rfl, rfl⟩; rw [List.cons_append, List.nil_append])|(apply OKx_gc 8;exact rfl; refine OKx_callL (f := 8) rfl rfl (hval _ _) ?_; rintro _ _ ⟨gs, cs, rfl, rfl⟩)|(apply OKx_gc 7;exact rfl; refine OKx_callL (f := 7) rfl rfl (compact_int_sat _ _ st.length (srtL st) _ _ 0 (srtL_perm st).length_eq rfl (by omega)) ?_; rintro _ _ ⟨kk, hkk, rfl, rfl⟩; rw [hcs] at hkk; rw [List.set_cons_zero])|(apply OKx_gc 10;exact rfl; refine OKx_callV (f := 10) rfl rfl rfl (fun w1 hp => hFi w1 hp.below) ?_)|(apply OKx_gc 6;exact rfl; refine OKx_callV (f := 6) rfl rfl rfl (fun w1 hp => haw w1) ?_)|(apply OKx_gn; refine OKx_beq Tryz.underlying4 rfl rfl ?_)|(apply OKx_gc 11;exact rfl; refine OKx_call (f := 11) rfl rfl (fun w1 hp => hOS2 w1 hp.below) ?_; rintro _ _ ⟨da, dc, rfl, rfl⟩; rw [List.cons_append, List.nil_append])|(apply OKx_gc 12;exact rfl; refine OKx_call (f := 12) rfl rfl (fun w1 hp => hOf w1 hp.below _ _ (hZn w w1 (hp.sub (by repeat (first | exact List.Sublist.refl _ | exact List.sublist_append_right _ _ | exact List.sublist_append_left _ _ | apply List.Sublist.cons))))) ?_; rintro _ Zo ⟨oa, oc, outs, rfl, _, ⟨vs, hvl, hrd⟩, hm, _⟩; have hany := anyOuts outs (difI st st.length); rw [decide_eq_true ((hlaw outs hm).2 hf1)] at hany; refine OKx_ent (Ent.perm (List.perm_append_comm (l₁ := Zo))) ?_; (try simp only [List.set_cons_zero]); simp only [List.cons_append])|(apply OKx_gc 13;exact rfl; refine OKx_callV (f := 13) (v := .bool true) rfl rfl rfl (fun w1 hp => hasOut_sat _ _ outs vs _ _ _ _ w1 hany (hrd w w1 (hp.sub (((((List.sublist_append_right _ _).cons _).cons _).cons _).cons _ |>.cons _))) ((hp.boxAt 0 rfl).1 0) (hp.ints 1 rfl (by omega))) ?_)|(apply OKx_nilK)|(apply OK_block)|(apply blockQ_n)|(apply blockQ_s)|(apply thenQ_e)|(apply blockQ_e;exact rfl)|(apply thenQ_r)|(apply blockQ_r)|(apply OK_condT;exact rfl)|(apply OK_condF;exact rfl)|(apply OK_skip)|(apply OK_exit)|(apply OK_ret)|(apply OKx_move;(conv=>lhs;whnf)<;>exact rfl)|(apply OKx_assign;(conv=>lhs;whnf)<;>exact rfl)|(apply OKx_len;exact rfl)|(apply OKx_lenR;(conv=>lhs;whnf)<;>exact rfl;(with_reducible assumption))|(apply OKx_lenR2;(conv=>lhs;whnf)<;>exact rfl;(with_reducible assumption))|(apply OKx_lenO;(conv=>lhs;whnf)<;>exact rfl;(first | exact at0|exact at1|exact at2|exact at3|exact at4|exact at5|exact at6|exact at7))|(apply OKx_lss;exact rfl;exact rfl;all_goals (intro _; try (exfalso;omega)))|(apply OKx_geq;exact rfl;exact rfl;all_goals (intro _; try (exfalso;omega)))|(apply OKx_eql;exact rfl;exact rfl;all_goals (intro _; try (exfalso;omega)))|(apply OKx_neq;exact rfl;exact rfl;all_goals (intro _; try (exfalso;omega)))|(apply OKx_pickT;exact rfl;(conv=>lhs;whnf)<;>exact rfl)|(apply OKx_pickF;exact rfl;(conv=>lhs;whnf)<;>exact rfl)|(apply OKx_guardT;exact rfl;exact rfl)|(apply OKx_guardF;exact rfl;exact rfl)|(apply OKx_guardU;exact rfl;exact rfl)|(apply OKx_notT;exact rfl)|(apply OKx_notF;exact rfl)|(apply OKx_extract;exact rfl;(conv=>lhs;whnf)<;>exact rfl)|(apply OKx_boxA;exact rfl;intro _)|(apply OKx_alloc1;intro _)|(apply OKx_ldBA;exact rfl;(first | exact at0|exact at1|exact at2|exact at3|exact at4|exact at5|exact at6|exact at7);exact rfl)|(apply OKx_ldRA;(conv=>lhs;whnf)<;>exact rfl;(with_reducible assumption))|(apply OKx_stB;exact rfl;(conv=>lhs;whnf)<;>exact rfl;exact rfl;exact rfl;(first | exact at0|exact at1|exact at2|exact at3|exact at4|exact at5|exact at6|exact at7);exact rfl;exact rfl;exact rfl)|(apply OKx_func;exact rfl;exact rfl))
      all_goals (try (exfalso;omega))
      all_goals
        refine bodyQ_r1 (by ((conv=>lhs;whnf)<;>exact rfl)) ?_
        exact ⟨_, Ent.nil, rfl, rfl⟩
    · refine SatL.of 91 [4] Tryz.func3 (by kernel_rfl) (by kernel_rfl) rfl rfl rfl rfl ?_
      repeat' (first|(apply OK_seq)|(apply thenQ_n)|(apply OK_region)|(apply OKx_gc 4;exact rfl; refine OKx_call (f := 4) rfl rfl (fun w1 hp => hT2 w1 hp.below) ?_; rintro _ Zn ⟨la, lc, na, nc, rfl, hZn⟩; refine OKx_ent (Ent.perm (List.perm_append_comm (l₁ := Zn))) ?_; simp only [List.cons_append, List.nil_append])|(apply OKx_gc 5;exact rfl; refine OKx_callV (f := 5) rfl rfl rfl (fun w1 hp => hco w1 hp.below) ?_)|(apply OKx_gc 9;exact rfl; refine OKx_call (f := 9) rfl rfl (fun w1 hp => values_sat sa st.length sc w1) ?_; rintro _ _ ⟨gv, rfl, rfl⟩; rw [List.cons_append, List.nil_append])|(apply OKx_gc 8;exact rfl; refine OKx_callL (f := 8) rfl rfl (hval _ _) ?_; rintro _ _ ⟨gs, cs, rfl, rfl⟩)|(apply OKx_gc 7;exact rfl; refine OKx_callL (f := 7) rfl rfl (compact_int_sat _ _ st.length (srtL st) _ _ 0 (srtL_perm st).length_eq rfl (by omega)) ?_; rintro _ _ ⟨kk, hkk, rfl, rfl⟩; rw [hcs] at hkk; rw [List.set_cons_zero])|(apply OKx_gc 10;exact rfl; refine OKx_callV (f := 10) rfl rfl rfl (fun w1 hp => hFi w1 hp.below) ?_)|(apply OKx_gc 6;exact rfl; refine OKx_callV (f := 6) rfl rfl rfl (fun w1 hp => haw w1) ?_)|(apply OKx_gn; refine OKx_beq Tryz.underlying4 rfl rfl ?_)|(apply OKx_gc 11;exact rfl; refine OKx_call (f := 11) rfl rfl (fun w1 hp => hOS2 w1 hp.below) ?_; rintro _ _ ⟨da, dc, rfl, rfl⟩; rw [List.cons_append, List.nil_append])|(apply OKx_gc 12;exact rfl; refine OKx_call (f := 12) rfl rfl (fun w1 hp => hOf w1 hp.below _ _ (hZn w w1 (hp.sub (by repeat (first | exact List.Sublist.refl _ | exact List.sublist_append_right _ _ | exact List.sublist_append_left _ _ | apply List.Sublist.cons))))) ?_; rintro _ Zo ⟨oa, oc, outs, rfl, _, ⟨vs, hvl, hrd⟩, hm, _⟩; have hany := anyOuts outs (difI st st.length); rw [decide_eq_false (fun h => hf1 ((hlaw outs hm).1 h))] at hany; refine OKx_ent (Ent.perm (List.perm_append_comm (l₁ := Zo))) ?_; (try simp only [List.set_cons_zero]); simp only [List.cons_append])|(apply OKx_gc 13;exact rfl; refine OKx_callV (f := 13) (v := .bool false) rfl rfl rfl (fun w1 hp => hasOut_sat _ _ outs vs _ _ _ _ w1 hany (hrd w w1 (hp.sub (((((List.sublist_append_right _ _).cons _).cons _).cons _).cons _ |>.cons _))) ((hp.boxAt 0 rfl).1 0) (hp.ints 1 rfl (by omega))) ?_)|(apply OKx_nilK)|(apply OK_block)|(apply blockQ_n)|(apply blockQ_s)|(apply thenQ_e)|(apply blockQ_e;exact rfl)|(apply thenQ_r)|(apply blockQ_r)|(apply OK_condT;exact rfl)|(apply OK_condF;exact rfl)|(apply OK_skip)|(apply OK_exit)|(apply OK_ret)|(apply OKx_move;(conv=>lhs;whnf)<;>exact rfl)|(apply OKx_assign;(conv=>lhs;whnf)<;>exact rfl)|(apply OKx_len;exact rfl)|(apply OKx_lenR;(conv=>lhs;whnf)<;>exact rfl;(with_reducible assumption))|(apply OKx_lenR2;(conv=>lhs;whnf)<;>exact rfl;(with_reducible assumption))|(apply OKx_lenO;(conv=>lhs;whnf)<;>exact rfl;(first | exact at0|exact at1|exact at2|exact at3|exact at4|exact at5|exact at6|exact at7))|(apply OKx_lss;exact rfl;exact rfl;all_goals (intro _; try (exfalso;omega)))|(apply OKx_geq;exact rfl;exact rfl;all_goals (intro _; try (exfalso;omega)))|(apply OKx_eql;exact rfl;exact rfl;all_goals (intro _; try (exfalso;omega)))|(apply OKx_neq;exact rfl;exact rfl;all_goals (intro _; try (exfalso;omega)))|(apply OKx_pickT;exact rfl;(conv=>lhs;whnf)<;>exact rfl)|(apply OKx_pickF;exact rfl;(conv=>lhs;whnf)<;>exact rfl)|(apply OKx_guardT;exact rfl;exact rfl)|(apply OKx_guardF;exact rfl;exact rfl)|(apply OKx_guardU;exact rfl;exact rfl)|(apply OKx_notT;exact rfl)|(apply OKx_notF;exact rfl)|(apply OKx_extract;exact rfl;(conv=>lhs;whnf)<;>exact rfl)|(apply OKx_boxA;exact rfl;intro _)|(apply OKx_alloc1;intro _)|(apply OKx_ldBA;exact rfl;(first | exact at0|exact at1|exact at2|exact at3|exact at4|exact at5|exact at6|exact at7);exact rfl)|(apply OKx_ldRA;(conv=>lhs;whnf)<;>exact rfl;(with_reducible assumption))|(apply OKx_stB;exact rfl;(conv=>lhs;whnf)<;>exact rfl;exact rfl;exact rfl;(first | exact at0|exact at1|exact at2|exact at3|exact at4|exact at5|exact at6|exact at7);exact rfl;exact rfl;exact rfl)|(apply OKx_func;exact rfl;exact rfl))
      all_goals (try (exfalso;omega))
      all_goals
        refine bodyQ_r1 (by ((conv=>lhs;whnf)<;>exact rfl)) ?_
        exact ⟨_, Ent.nil, rfl, rfl⟩
end Go.Proofs.YtpknpbeiifjmgaaGreat
