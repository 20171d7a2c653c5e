/-
  Part 18 of the proof: Kf27. No statement of the seat is proved here.
-/
import Derived.Test.YthnlnffmmioapaaGreatDoorMHCl2717
namespace Go.Proofs.YthnlnffmmioapaaGreatDoor
open Go.RowKit
def QueV (w : World) (b : List ByteArray) (r : Rdn) (v : Value) : Prop := ∃ bv wv sv, v = .agg #[bv, wv, sv] ∧ Strs w bv b ∧ Strs w wv r.words ∧ Ints w sv r.src
theorem QueV.below {w w' : World} {b : List ByteArray} {r : Rdn} {v : Value} (h : QueV w b r v) (hb : Below w.heap.size w w') : QueV w' b r v := by
  obtain ⟨bv, wv, sv, h1, h2, h3, h4⟩ := h
  exact ⟨bv, wv, sv, h1, h2.below hb, h3.below hb, h4.below hb⟩
set_option maxRecDepth 100000 in
set_option maxHeartbeats 4000000 in
theorem near_sat (bv wv : Value) (b ws : List ByteArray) (n : Int) (w : World) (hB : Strs w bv b) (hW : Strs w wv ws) (hb : wdsB b = true) (hw : wdsB ws = true) : SatV Tryz.prog 167 [bv, wv, .int .i64 n] w (.bool (nearB b ws n)) := by
  have hlen : ∀ l, wdsB l = true → (jnS l).length ≤ 140737488355328 := fun l hl => by
    obtain ⟨h1, h2⟩ := (wdsB_iff l).1 hl
    have := jnS_len 64 l fun x hx => (h2 x hx).2.1
    have : l.length * (64 + 1) ≤ 1024 * 65 := Nat.mul_le_mul h1 (Nat.le_refl _)
    omega
  have j1 := fun w1 (h : Below w.heap.size w w1) => join_sat bv b w1 (hB.below h) (hlen b hb)
  have j2 := fun w1 (h : Below w.heap.size w w1) => join_sat wv ws w1 (hW.below h) (hlen ws hw)
  have hD := fun w1 => Distance_sat (jnS b) (jnS ws) w1 (hlen b hb) (hlen ws hw)
  have z1 := bOf_size (jnS b)
  have z2 := bOf_size (jnS ws)
  unfold nearB
  generalize jnS b = x at *
  generalize jnS ws = y at *
  unfold dstE at hD
  by_cases h : 256 < max x.length y.length
  · rw [decide_eq_false (show ¬ max x.length y.length ≤ 256 by omega), Bool.false_and]
    refine SatL.of 34 [6] Tryz.func167 (by kernel_rfl) (by kernel_rfl) rfl rfl rfl rfl ?_
    repeat' (first|(apply OK_seq)|(apply thenQ_n)|(apply OK_region)|(apply OKx_gc 180;exact rfl; refine OKx_callV (f := 180) (v := .string (bOf x)) rfl rfl rfl (fun w1 hp => j1 w1 hp.below) ?_)|(apply OKx_gc 180;exact rfl; refine OKx_callV (f := 180) (v := .string (bOf y)) rfl rfl rfl (fun w1 hp => j2 w1 hp.below) ?_)|(apply OKx_nilK)|(apply thenQ_r)|(apply OK_condT;exact rfl)|(apply OK_ret)|(apply OKx_move;(conv=>lhs;whnf)<;>exact rfl)|(apply OKx_assign;(conv=>lhs;whnf)<;>exact rfl)|(apply OKx_lenS;exact rfl)|(apply OKx_gtr;exact rfl;exact rfl;all_goals (intro _; try (exfalso;omega)))|(apply OKx_max;exact rfl;exact rfl))
    all_goals (try (exfalso;omega))
    all_goals
      refine bodyQ_r1 (by ((conv=>lhs;whnf)<;>exact rfl)) ?_
      exact ⟨_, Ent.nil, rfl, rfl⟩
  · rw [decide_eq_true (show max x.length y.length ≤ 256 by omega), Bool.true_and]
    rw [if_neg h, if_neg h] at hD
    refine SatL.of 34 [6] Tryz.func167 (by kernel_rfl) (by kernel_rfl) rfl rfl rfl rfl ?_
    repeat' (first|(apply OK_seq)|(apply thenQ_n)|(apply OK_region)|(apply OKx_gc 180;exact rfl; refine OKx_callV (f := 180) (v := .string (bOf x)) rfl rfl rfl (fun w1 hp => j1 w1 hp.below) ?_)|(apply OKx_gc 180;exact rfl; refine OKx_callV (f := 180) (v := .string (bOf y)) rfl rfl rfl (fun w1 hp => j2 w1 hp.below) ?_)|(apply OKx_gc 181;exact rfl; refine OKx_callV (f := 181) rfl rfl rfl (fun w1 hp => hD w1) ?_)|(apply OKx_nilK)|(apply OK_condF;exact rfl)|(apply OK_skip)|(apply OK_ret)|(apply OKx_move;(conv=>lhs;whnf)<;>exact rfl)|(apply OKx_assign;(conv=>lhs;whnf)<;>exact rfl)|(apply OKx_lenS;exact rfl)|(apply OKx_leq;exact rfl;exact rfl;all_goals (intro _; try (exfalso;omega)))|(apply OKx_gtr;exact rfl;exact rfl;all_goals (intro _; try (exfalso;omega)))|(apply OKx_eql;exact rfl;exact rfl;all_goals (intro _; try (exfalso;omega)))|(apply OKx_max;exact rfl;exact rfl)|(apply OKx_pickT;exact rfl;(conv=>lhs;whnf)<;>exact rfl)|(apply OKx_guardT;exact rfl;exact rfl)|(apply OKx_extract;exact rfl;(conv=>lhs;whnf)<;>exact rfl))
    all_goals (try (exfalso;omega))
    all_goals
      refine bodyQ_r1 (by ((conv=>lhs;whnf)<;>exact rfl)) ?_
      refine ⟨_, Ent.nil, bool_eq ?_, rfl⟩
    all_goals first
      | rw [decide_eq_true (by omega)]
      | rw [decide_eq_false (by omega)]
set_option maxRecDepth 100000 in
set_option maxHeartbeats 4000000 in
theorem matched1_sat (s x : ByteArray) (p : Value) (w : World) (hp : Pt1 w p (.string s)) (hs : s.size ≤ 140737488355328) (hx : x.size ≤ 140737488355328) : SatV Tryz.prog 182 [.string x, p] w (.bool (mtcB (byts s) (byts x))) := by
  have hM := fun w1 => Match_sat (byts s) (byts x) w1 (by rw [byts_len]; exact hs) (by rw [byts_len]; exact hx)
  rw [show bOf (byts s) = s from bOf_data s, show bOf (byts x) = x from bOf_data x] at hM
  have hz : mtcE (byts s) (byts x) ≠ 0 → mtcB (byts s) (byts x) = false := fun h => by unfold mtcB; rw [if_pos h]
  cases hb : mtcB (byts s) (byts x) <;> rw [hb] at hM hz
  all_goals
    refine SatL.of 17 [3] Tryz.func182 (by kernel_rfl) (by kernel_rfl) rfl rfl rfl rfl ?_
    repeat' (first|(apply OK_seq)|(apply thenQ_n)|(apply OK_region)|(apply OKx_gc 183;exact rfl; refine OKx_callV (f := 183) rfl rfl rfl (fun w1 hp => hM w1) ?_)|(apply OKx_nilK)|(apply OK_ret)|(apply OKx_move;(conv=>lhs;whnf)<;>exact rfl)|(apply OKx_assign;(conv=>lhs;whnf)<;>exact rfl)|(apply OKx_ldR;(conv=>lhs;whnf)<;>exact rfl;(with_reducible assumption))|(apply OKx_eql;exact rfl;exact rfl;all_goals (intro _; try (exfalso;omega)))|(apply OKx_pickT;exact rfl;(conv=>lhs;whnf)<;>exact rfl)|(apply OKx_pickF;exact rfl;(conv=>lhs;whnf)<;>exact rfl)|(apply OKx_guardT;exact rfl;exact rfl)|(apply OKx_guardF;exact rfl;exact rfl)|(apply OKx_extract;exact rfl;(conv=>lhs;whnf)<;>exact rfl))
  all_goals
    refine bodyQ_r1 (by ((conv=>lhs;whnf)<;>exact rfl)) ?_
    refine ⟨_, Ent.nil, ?_, rfl⟩
  all_goals first
    | rfl
    | exact absurd (hz (by assumption)) (by decide)
theorem anyN_some {p : Nat → Bool} {α : Type} {xs : List α} {f : α → Bool} (h : ∀ j, (hj : j < xs.length) → p j = f xs[j]) : anyN p xs.length = xs.any f := by
  unfold anyN
  rw [Bool.eq_iff_iff, List.any_eq_true, List.any_eq_true]
  constructor
  · rintro ⟨j, hj, e⟩
    rw [List.mem_range] at hj
    rw [h j hj] at e
    exact ⟨_, List.getElem_mem hj, e⟩
  · rintro ⟨x, hx, e⟩
    obtain ⟨j, hj, rfl⟩ := List.getElem_of_mem hx
    exact ⟨j, List.mem_range.2 hj, by rw [h j hj]; exact e⟩
set_option maxRecDepth 100000 in
set_option maxHeartbeats 4000000 in
theorem matched_sat (s : ByteArray) (v : Value) (ws : List ByteArray) (w : World) (hs : s.size ≤ 140737488355328) (h : Strs w v ws) : SatV Tryz.prog 171 [.string s, v] w (.bool (mtchB s ws)) := by
  have hsl := h.sl
  have hsz : ∀ j, j < ws.length → (ws.getD j ByteArray.empty).size ≤ 140737488355328 := fun j hj => by rw [getD_lt _ _ _ hj]; exact h.2 _ (List.getElem_mem hj)
  have hC : ∀ (w1 : World) (g : Nat), Below w.heap.size w w1 → w1.cell? ⟨g, 0, none⟩ = some (.string s) → SatV Tryz.prog 53 [v, .func (.func 182) #[] #[.pointer (some ⟨g, 0, none⟩)]] w1 (.bool (mtchB s ws)) := fun w1 g hb hg => by
    have := containsF_str_sat v ws.length _ (fun j => mtcB (byts s) (byts (ws.getD j ByteArray.empty))) 182 #[.pointer (some ⟨g, 0, none⟩)] w1 (hsl.below hb) (fun j hj w2 hb2 => matched1_sat s _ _ w2 (Pt1.below ⟨_, _, rfl, hg⟩ hb2) hs (hsz j hj))
    rwa [anyN_some (f := fun x => mtcB (byts s) (byts x)) (fun j hj => by rw [getD_lt _ _ _ hj])] at this
  refine SatL.of 8 [4] Tryz.func171 (by kernel_rfl) (by kernel_rfl) rfl rfl rfl rfl ?_
  repeat' (first|(apply OK_seq)|(apply thenQ_n)|(apply OK_region)|(apply OKx_gc 53;exact rfl; refine OKx_callV (f := 53) rfl rfl rfl (fun w1 hp => hC w1 _ hp.below ((hp.boxAt 0 rfl).1 0)) ?_)|(apply OKx_nilK)|(apply OK_ret)|(apply OKx_move;(conv=>lhs;whnf)<;>exact rfl)|(apply OKx_assign;(conv=>lhs;whnf)<;>exact rfl)|(apply OKx_box1;(conv=>lhs;whnf)<;>exact rfl;exact rfl;intro _)|(apply OKx_func;exact rfl;exact rfl))
  refine bodyQ_r1 (by ((conv=>lhs;whnf)<;>exact rfl)) ?_
  exact ⟨_, Ent.nil, rfl, rfl⟩
set_option maxRecDepth 100000 in
set_option maxHeartbeats 4000000 in
theorem sortedK_sat (a : Option Addr) (c : Nat) (l : List ByteArray) (w : World) (h : Strs w (.slice a l.length c) l) (hl : l.length ≤ 1000000) : Sat Tryz.prog 163 [.slice a l.length c] w (fun u L => ∃ a2 c2, u = .slice a2 (srtS l).length c2 ∧ L = [.row 9 1 (.slice a2 (srtS l).length c2) (srtS l).length (strs (srtS l))]) := by
  have hval : ∀ (g : Nat) (X : List Res), SatL Tryz.prog 164 [.func (.func 179) #[] #[.pointer (some ⟨g, 0, none⟩)]] w (.box 25 g [.slice a l.length c] :: X) (SrdS l (.box 25 g [.slice a l.length c] :: X)) := fun g X =>
    sortedS_it_sat 179 [.pointer (some ⟨g, 0, none⟩)] _ l w ⟨_, _, Tryz.func179, by kernel_rfl, rfl⟩ (valuesS1 h) hl
  refine SatL.of 6 [2] Tryz.func163 (by kernel_rfl) (by kernel_rfl) rfl rfl rfl rfl ?_
  repeat' (first|(apply OK_seq)|(apply thenQ_n)|(apply OK_region)|(apply OKx_gc 165;exact rfl; refine OKx_call (f := 165) rfl rfl (fun w1 hp => valuesS_sat a l.length c w1) ?_; rintro _ _ ⟨gv, rfl, rfl⟩; rw [List.cons_append, List.nil_append])|(apply OKx_gc 164;exact rfl; refine OKx_callL (f := 164) rfl rfl (hval _ _) ?_; rintro _ _ ⟨a2, c2, _, rfl, rfl⟩)|(apply OKx_nilK)|(apply OK_ret)|(apply OKx_move;(conv=>lhs;whnf)<;>exact rfl)|(apply OKx_assign;(conv=>lhs;whnf)<;>exact rfl))
  refine bodyQ_r1 (by ((conv=>lhs;whnf)<;>exact rfl)) ?_
  exact ⟨_, Ent.sub (by first | exact List.Sublist.cons_cons _ (List.nil_sublist _)), a2, c2, by rw [srtS_len], by rw [srtS_len]⟩
set_option maxRecDepth 100000 in
set_option maxHeartbeats 4000000 in
theorem eq10_sat (x y : ByteArray) (w : World) (hx : x.size ≤ 140737488355328) (hy : y.size ≤ 140737488355328) : SatV Tryz.prog 175 [.string x, .string y] w (.bool (decide (simL (byts x) = simL (byts y)))) := by
  have h1 := fun w1 => simple_sat x w1 hx
  have h2 := fun w1 => simple_sat y w1 hy
  have hi : ∀ a b : List UInt8, bOf a = bOf b ↔ a = b := fun a b => ⟨fun h => by have := congrArg (fun s : ByteArray => s.data.toList) h; simpa [bOf] using this, fun h => by rw [h]⟩
  have hi2 := hi (simL (byts x)) (simL (byts y))
  refine SatL.of 10 [4] Tryz.func175 (by kernel_rfl) (by kernel_rfl) rfl rfl rfl rfl ?_
  repeat' (first|(apply OK_seq)|(apply thenQ_n)|(apply OK_region)|(apply OKx_gc 176;exact rfl; refine OKx_callV (f := 176) (v := .string (bOf (simL (byts x)))) rfl rfl rfl (fun w1 hp => h1 w1) ?_)|(apply OKx_gc 176;exact rfl; refine OKx_callV (f := 176) (v := .string (bOf (simL (byts y)))) rfl rfl rfl (fun w1 hp => h2 w1) ?_)|(apply OKx_nilK)|(apply OK_ret)|(apply OKx_move;(conv=>lhs;whnf)<;>exact rfl)|(apply OKx_assign;(conv=>lhs;whnf)<;>exact rfl)|(apply OKx_seql;exact rfl;exact rfl; all_goals intro _))
  all_goals
    refine bodyQ_r1 (by ((conv=>lhs;whnf)<;>exact rfl)) ?_
    refine ⟨_, Ent.nil, bool_eq ?_, rfl⟩
  · rw [eq_comm, decide_eq_true (hi2.1 (by assumption))]
  · rename_i hne
    rw [eq_comm, decide_eq_false (fun e => hne (hi2.2 e))]
theorem map_sim (b ws : List ByteArray) : (decide (b.length = ws.length) && (List.range b.length).all fun i => decide (simL (byts (b.getD i ByteArray.empty)) = simL (byts (ws.getD i ByteArray.empty)))) = decide (b.map (fun w => simL (byts w)) = ws.map fun w => simL (byts w)) := by
  rw [Bool.eq_iff_iff, Bool.and_eq_true, decide_eq_true_eq, List.all_eq_true, decide_eq_true_eq]
  constructor
  · rintro ⟨h1, h2⟩
    refine List.ext_getElem (by simp [h1]) fun j hj hj2 => ?_
    have hj' : j < b.length := by simpa using hj
    have := of_decide_eq_true (h2 j (List.mem_range.2 hj'))
    rw [getD_lt _ _ _ hj', getD_lt _ _ _ (by omega)] at this
    simpa using this
  · intro h
    have hl := map_eq_len h
    refine ⟨hl, fun j hj => ?_⟩
    have hj' := List.mem_range.1 hj
    rw [decide_eq_true_eq, getD_lt _ _ _ hj', getD_lt _ _ _ (by omega)]
    have := congrArg (fun l => l[j]?) h
    simpa [hj', show j < ws.length by omega] using this
def KndS (f : FuncId) (i : Int) : Prop := ∀ (xv cv : Value) (x : Cnd) (b : List ByteArray) (r : Rdn) (w : World), Exp w x xv → QueV w b r cv → wdsB b = true → rdgB r = true → SatV Tryz.prog f [xv, cv] w (.bool (leafH i x.num x.text b r.words r.src.length))
set_option maxRecDepth 100000 in
set_option maxHeartbeats 4000000 in
theorem kind1_sat : KndS 159 1 := by
  intro xv cv x b r w hE hQ hb hr
  obtain ⟨pv, g, rfl, hs, _⟩ := hE.shape
  obtain ⟨bv, wv, sv, rfl, hB, hW, hS⟩ := hQ
  have hBs := hB.sl
  have hWs := hW.sl
  have hSs := hS.sl
  have hw : wdsB r.words = true := by unfold rdgB at hr; rw [Bool.and_eq_true] at hr; exact hr.2
  obtain ⟨ba, bc, rfl, hbl, _⟩ := hB.at
  obtain ⟨wa, wc, rfl, hwl, _⟩ := hW.at
  obtain ⟨sa, sc, rfl, hsl, _⟩ := hS.at
  refine SatL.of 16 [4] Tryz.func159 (by kernel_rfl) (by kernel_rfl) rfl rfl rfl rfl ?_
  repeat' (first|(apply OK_seq)|(apply thenQ_n)|(apply OK_region)|(apply OKx_nilK)|(apply OK_ret)|(apply OKx_move;(conv=>lhs;whnf)<;>exact rfl)|(apply OKx_assign;(conv=>lhs;whnf)<;>exact rfl)|(apply OKx_ldB;exact rfl; (apply atP;constructor);exact rfl)|(apply OKx_len;exact rfl)|(apply OKx_gtr;exact rfl;exact rfl;all_goals (intro _; try (exfalso;omega)))|(apply OKx_eql;exact rfl;exact rfl;all_goals (intro _; try (exfalso;omega)))|(apply OKx_fldO;exact rfl;exact rfl)|(apply OKx_pickT;exact rfl;(conv=>lhs;whnf)<;>exact rfl)|(apply OKx_pickF;exact rfl;(conv=>lhs;whnf)<;>exact rfl)|(apply OKx_guardT;exact rfl;exact rfl)|(apply OKx_guardF;exact rfl;exact rfl)|(apply OKx_boxA;exact rfl;intro _))
  all_goals
    refine bodyQ_r1 (by ((conv=>lhs;whnf)<;>exact rfl)) ?_
    refine ⟨_, Ent.nil, bool_eq ?_, rfl⟩
    show _ = (decide (0 < b.length) && decide (r.words.length = 0))
  all_goals first
    | (rw [decide_eq_true (show 0 < b.length by omega), decide_eq_true (show r.words.length = 0 by omega)]; rfl)
    | (rw [decide_eq_false (show ¬ r.words.length = 0 by omega), Bool.and_false])
    | (rw [decide_eq_false (show ¬ 0 < b.length by omega), Bool.false_and])
set_option maxRecDepth 100000 in
set_option maxHeartbeats 4000000 in
theorem kind2_sat : KndS 160 2 := by
  intro xv cv x b r w hE hQ hb hr
  obtain ⟨pv, g, rfl, hs, _⟩ := hE.shape
  obtain ⟨bv, wv, sv, rfl, hB, hW, hS⟩ := hQ
  have hBs := hB.sl
  have hWs := hW.sl
  have hSs := hS.sl
  have hw : wdsB r.words = true := by unfold rdgB at hr; rw [Bool.and_eq_true] at hr; exact hr.2
  obtain ⟨ba, bc, rfl, hbl, _⟩ := hB.at
  obtain ⟨wa, wc, rfl, hwl, _⟩ := hW.at
  obtain ⟨sa, sc, rfl, hsl, _⟩ := hS.at
  refine SatL.of 16 [4] Tryz.func160 (by kernel_rfl) (by kernel_rfl) rfl rfl rfl rfl ?_
  repeat' (first|(apply OK_seq)|(apply thenQ_n)|(apply OK_region)|(apply OKx_nilK)|(apply OK_ret)|(apply OKx_move;(conv=>lhs;whnf)<;>exact rfl)|(apply OKx_assign;(conv=>lhs;whnf)<;>exact rfl)|(apply OKx_ldB;exact rfl; (apply atP;constructor);exact rfl)|(apply OKx_len;exact rfl)|(apply OKx_gtr;exact rfl;exact rfl;all_goals (intro _; try (exfalso;omega)))|(apply OKx_eql;exact rfl;exact rfl;all_goals (intro _; try (exfalso;omega)))|(apply OKx_fldO;exact rfl;exact rfl)|(apply OKx_pickT;exact rfl;(conv=>lhs;whnf)<;>exact rfl)|(apply OKx_pickF;exact rfl;(conv=>lhs;whnf)<;>exact rfl)|(apply OKx_guardT;exact rfl;exact rfl)|(apply OKx_guardF;exact rfl;exact rfl)|(apply OKx_boxA;exact rfl;intro _))
  all_goals
    refine bodyQ_r1 (by ((conv=>lhs;whnf)<;>exact rfl)) ?_
    refine ⟨_, Ent.nil, bool_eq ?_, rfl⟩
    show _ = (decide (b.length = 0) && decide (0 < r.words.length))
  all_goals first
    | (rw [decide_eq_true (show b.length = 0 by omega), decide_eq_true (show 0 < r.words.length by omega)]; rfl)
    | (rw [decide_eq_false (show ¬ 0 < r.words.length by omega), Bool.and_false])
    | (rw [decide_eq_false (show ¬ b.length = 0 by omega), Bool.false_and])
set_option maxRecDepth 100000 in
set_option maxHeartbeats 4000000 in
theorem kind3_sat : KndS 161 3 := by
  intro xv cv x b r w hE hQ hb hr
  obtain ⟨pv, g, rfl, hs, _⟩ := hE.shape
  obtain ⟨bv, wv, sv, rfl, hB, hW, hS⟩ := hQ
  have hBs := hB.sl
  have hWs := hW.sl
  have hSs := hS.sl
  have hw : wdsB r.words = true := by unfold rdgB at hr; rw [Bool.and_eq_true] at hr; exact hr.2
  obtain ⟨ba, bc, rfl, hbl, _⟩ := hB.at
  obtain ⟨wa, wc, rfl, hwl, _⟩ := hW.at
  obtain ⟨sa, sc, rfl, hsl, _⟩ := hS.at
  have hq := fun w1 (h : Below w.heap.size w w1) => equalB_sat _ _ b r.words w1 (hB.below h) (hW.below h)
  refine SatL.of 25 [4] Tryz.func161 (by kernel_rfl) (by kernel_rfl) rfl rfl rfl rfl ?_
  repeat' (first|(apply OK_seq)|(apply thenQ_n)|(apply OK_region)|(apply OKx_gc 18;exact rfl; refine OKx_callB (f := 18) rfl rfl rfl (fun w1 hp => hq w1 hp.below) ?_ ?_ <;> intro hqq)|(apply OKx_nilK)|(apply OK_ret)|(apply OKx_move;(conv=>lhs;whnf)<;>exact rfl)|(apply OKx_assign;(conv=>lhs;whnf)<;>exact rfl)|(apply OKx_ldB;exact rfl; (apply atP;constructor);exact rfl)|(apply OKx_len;exact rfl)|(apply OKx_gtr;exact rfl;exact rfl;all_goals (intro _; try (exfalso;omega)))|(apply OKx_fldO;exact rfl;exact rfl)|(apply OKx_pickT;exact rfl;(conv=>lhs;whnf)<;>exact rfl)|(apply OKx_pickF;exact rfl;(conv=>lhs;whnf)<;>exact rfl)|(apply OKx_guardT;exact rfl;exact rfl)|(apply OKx_guardF;exact rfl;exact rfl)|(apply OKx_notT;exact rfl)|(apply OKx_notF;exact rfl)|(apply OKx_boxA;exact rfl;intro _))
  all_goals
    refine bodyQ_r1 (by ((conv=>lhs;whnf)<;>exact rfl)) ?_
    refine ⟨_, Ent.nil, bool_eq ?_, rfl⟩
    unfold leafH
    rw [if_neg (by decide), if_neg (by decide), if_pos rfl]
  all_goals first
    | (rw [hqq, decide_eq_true (show 0 < b.length by omega), decide_eq_true (show 0 < r.words.length by omega)]; rfl)
    | (rw [decide_eq_false (show ¬ 0 < r.words.length by omega), Bool.false_and, Bool.and_false])
    | (rw [decide_eq_false (show ¬ 0 < b.length by omega), Bool.false_and])
set_option maxRecDepth 100000 in
set_option maxHeartbeats 4000000 in
theorem kind5_sat : KndS 166 5 := by
  intro xv cv x b r w hE hQ hb hr
  obtain ⟨pv, g, rfl, hs, _⟩ := hE.shape
  obtain ⟨bv, wv, sv, rfl, hB, hW, hS⟩ := hQ
  have hBs := hB.sl
  have hWs := hW.sl
  have hSs := hS.sl
  have hw : wdsB r.words = true := by unfold rdgB at hr; rw [Bool.and_eq_true] at hr; exact hr.2
  obtain ⟨ba, bc, rfl, hbl, _⟩ := hB.at
  obtain ⟨wa, wc, rfl, hwl, _⟩ := hW.at
  obtain ⟨sa, sc, rfl, hsl, _⟩ := hS.at
  have hn := fun w1 (h : Below w.heap.size w w1) => near_sat _ _ b r.words x.num w1 (hB.below h) (hW.below h) hb hw
  refine SatL.of 13 [4] Tryz.func166 (by kernel_rfl) (by kernel_rfl) rfl rfl rfl rfl ?_
  repeat' (first|(apply OK_seq)|(apply thenQ_n)|(apply OK_region)|(apply OKx_gc 167;exact rfl; refine OKx_callV (f := 167) rfl rfl rfl (fun w1 hp => hn w1 hp.below) ?_)|(apply OKx_nilK)|(apply OK_ret)|(apply OKx_assign;(conv=>lhs;whnf)<;>exact rfl)|(apply OKx_ldB;exact rfl; (apply atP;constructor);exact rfl)|(apply OKx_fldO;exact rfl;exact rfl)|(apply OKx_boxA;exact rfl;intro _))
  all_goals
    refine bodyQ_r1 (by ((conv=>lhs;whnf)<;>exact rfl)) ?_
    refine ⟨_, Ent.nil, bool_eq ?_, rfl⟩
    rfl
set_option maxRecDepth 100000 in
set_option maxHeartbeats 4000000 in
theorem kind6_sat : KndS 168 6 := by
  intro xv cv x b r w hE hQ hb hr
  obtain ⟨pv, g, rfl, hs, _⟩ := hE.shape
  obtain ⟨bv, wv, sv, rfl, hB, hW, hS⟩ := hQ
  have hBs := hB.sl
  have hWs := hW.sl
  have hSs := hS.sl
  have hw : wdsB r.words = true := by unfold rdgB at hr; rw [Bool.and_eq_true] at hr; exact hr.2
  obtain ⟨ba, bc, rfl, hbl, _⟩ := hB.at
  obtain ⟨wa, wc, rfl, hwl, _⟩ := hW.at
  obtain ⟨sa, sc, rfl, hsl, _⟩ := hS.at
  refine SatL.of 12 [4] Tryz.func168 (by kernel_rfl) (by kernel_rfl) rfl rfl rfl rfl ?_
  repeat' (first|(apply OK_seq)|(apply thenQ_n)|(apply OK_region)|(apply OKx_nilK)|(apply OK_ret)|(apply OKx_assign;(conv=>lhs;whnf)<;>exact rfl)|(apply OKx_ldB;exact rfl; (apply atP;constructor);exact rfl)|(apply OKx_len;exact rfl)|(apply OKx_leq;exact rfl;exact rfl;all_goals (intro _; try (exfalso;omega)))|(apply OKx_fldO;exact rfl;exact rfl)|(apply OKx_boxA;exact rfl;intro _))
  all_goals
    refine bodyQ_r1 (by ((conv=>lhs;whnf)<;>exact rfl)) ?_
    refine ⟨_, Ent.nil, bool_eq ?_, rfl⟩
    unfold leafH
    simp
    omega
set_option maxRecDepth 100000 in
set_option maxHeartbeats 4000000 in
theorem kind7_sat : KndS 169 7 := by
  intro xv cv x b r w hE hQ hb hr
  obtain ⟨pv, g, rfl, hs, _⟩ := hE.shape
  obtain ⟨bv, wv, sv, rfl, hB, hW, hS⟩ := hQ
  have hBs := hB.sl
  have hWs := hW.sl
  have hSs := hS.sl
  have hw : wdsB r.words = true := by unfold rdgB at hr; rw [Bool.and_eq_true] at hr; exact hr.2
  obtain ⟨ba, bc, rfl, hbl, _⟩ := hB.at
  obtain ⟨wa, wc, rfl, hwl, _⟩ := hW.at
  obtain ⟨sa, sc, rfl, hsl, _⟩ := hS.at
  refine SatL.of 12 [4] Tryz.func169 (by kernel_rfl) (by kernel_rfl) rfl rfl rfl rfl ?_
  repeat' (first|(apply OK_seq)|(apply thenQ_n)|(apply OK_region)|(apply OKx_nilK)|(apply OK_ret)|(apply OKx_assign;(conv=>lhs;whnf)<;>exact rfl)|(apply OKx_ldB;exact rfl; (apply atP;constructor);exact rfl)|(apply OKx_len;exact rfl)|(apply OKx_geq;exact rfl;exact rfl;all_goals (intro _; try (exfalso;omega)))|(apply OKx_fldO;exact rfl;exact rfl)|(apply OKx_boxA;exact rfl;intro _))
  all_goals
    refine bodyQ_r1 (by ((conv=>lhs;whnf)<;>exact rfl)) ?_
    refine ⟨_, Ent.nil, bool_eq ?_, rfl⟩
    unfold leafH
    simp
    omega
set_option maxRecDepth 100000 in
set_option maxHeartbeats 4000000 in
theorem kind8_sat : KndS 170 8 := by
  intro xv cv x b r w hE hQ hb hr
  obtain ⟨pv, g, rfl, hs, _⟩ := hE.shape
  obtain ⟨bv, wv, sv, rfl, hB, hW, hS⟩ := hQ
  have hBs := hB.sl
  have hWs := hW.sl
  have hSs := hS.sl
  have hw : wdsB r.words = true := by unfold rdgB at hr; rw [Bool.and_eq_true] at hr; exact hr.2
  obtain ⟨ba, bc, rfl, hbl, _⟩ := hB.at
  obtain ⟨wa, wc, rfl, hwl, _⟩ := hW.at
  obtain ⟨sa, sc, rfl, hsl, _⟩ := hS.at
  have hn := fun w1 (h : Below w.heap.size w w1) => matched_sat x.text _ b w1 hs (hB.below h)
  refine SatL.of 10 [4] Tryz.func170 (by kernel_rfl) (by kernel_rfl) rfl rfl rfl rfl ?_
  repeat' (first|(apply OK_seq)|(apply thenQ_n)|(apply OK_region)|(apply OKx_gc 171;exact rfl; refine OKx_callV (f := 171) rfl rfl rfl (fun w1 hp => hn w1 hp.below) ?_)|(apply OKx_nilK)|(apply OK_ret)|(apply OKx_assign;(conv=>lhs;whnf)<;>exact rfl)|(apply OKx_ldB;exact rfl; (apply atP;constructor);exact rfl)|(apply OKx_fldO;exact rfl;exact rfl)|(apply OKx_boxA;exact rfl;intro _))
  all_goals
    refine bodyQ_r1 (by ((conv=>lhs;whnf)<;>exact rfl)) ?_
    refine ⟨_, Ent.nil, bool_eq ?_, rfl⟩
    rfl
set_option maxRecDepth 100000 in
set_option maxHeartbeats 4000000 in
theorem kind9_sat : KndS 172 9 := by
  intro xv cv x b r w hE hQ hb hr
  obtain ⟨pv, g, rfl, hs, _⟩ := hE.shape
  obtain ⟨bv, wv, sv, rfl, hB, hW, hS⟩ := hQ
  have hBs := hB.sl
  have hWs := hW.sl
  have hSs := hS.sl
  have hw : wdsB r.words = true := by unfold rdgB at hr; rw [Bool.and_eq_true] at hr; exact hr.2
  obtain ⟨ba, bc, rfl, hbl, _⟩ := hB.at
  obtain ⟨wa, wc, rfl, hwl, _⟩ := hW.at
  obtain ⟨sa, sc, rfl, hsl, _⟩ := hS.at
  have hn := fun w1 (h : Below w.heap.size w w1) => matched_sat x.text _ r.words w1 hs (hW.below h)
  refine SatL.of 11 [4] Tryz.func172 (by kernel_rfl) (by kernel_rfl) rfl rfl rfl rfl ?_
  repeat' (first|(apply OK_seq)|(apply thenQ_n)|(apply OK_region)|(apply OKx_gc 171;exact rfl; refine OKx_callV (f := 171) rfl rfl rfl (fun w1 hp => hn w1 hp.below) ?_)|(apply OKx_nilK)|(apply OK_ret)|(apply OKx_assign;(conv=>lhs;whnf)<;>exact rfl)|(apply OKx_ldB;exact rfl; (apply atP;constructor);exact rfl)|(apply OKx_fldO;exact rfl;exact rfl)|(apply OKx_boxA;exact rfl;intro _))
  all_goals
    refine bodyQ_r1 (by ((conv=>lhs;whnf)<;>exact rfl)) ?_
    refine ⟨_, Ent.nil, bool_eq ?_, rfl⟩
    rfl
set_option maxRecDepth 100000 in
set_option maxHeartbeats 4000000 in
theorem kind10_sat : KndS 173 10 := by
  intro xv cv x b r w hE hQ hb hr
  obtain ⟨pv, g, rfl, hs, _⟩ := hE.shape
  obtain ⟨bv, wv, sv, rfl, hB, hW, hS⟩ := hQ
  have hBs := hB.sl
  have hWs := hW.sl
  have hSs := hS.sl
  have hw : wdsB r.words = true := by unfold rdgB at hr; rw [Bool.and_eq_true] at hr; exact hr.2
  obtain ⟨ba, bc, rfl, hbl, _⟩ := hB.at
  obtain ⟨wa, wc, rfl, hwl, _⟩ := hW.at
  obtain ⟨sa, sc, rfl, hsl, _⟩ := hS.at
  have hn : ∀ w1, Below w.heap.size w w1 → SatV Tryz.prog 174 [.slice ba b.length bc, .slice wa r.words.length wc, .func (.func 175) #[] #[]] w1 (.bool (leafH 10 x.num x.text b r.words r.src.length)) := fun w1 h => by
    have := equalF_sat _ _ b r.words (fun x y => decide (simL (byts x) = simL (byts y))) 175 w1 (hB.below h) (hW.below h) (fun x hx y hy w2 => eq10_sat x y w2 (hB.2 x hx) (hW.2 y hy))
    rw [map_sim] at this
    exact this
  refine SatL.of 11 [4] Tryz.func173 (by kernel_rfl) (by kernel_rfl) rfl rfl rfl rfl ?_
  repeat' (first|(apply OK_seq)|(apply thenQ_n)|(apply OK_region)|(apply OKx_gc 174;exact rfl; refine OKx_callV (f := 174) rfl rfl rfl (fun w1 hp => hn w1 hp.below) ?_)|(apply OKx_nilK)|(apply OK_ret)|(apply OKx_assign;(conv=>lhs;whnf)<;>exact rfl)|(apply OKx_ldB;exact rfl; (apply atP;constructor);exact rfl)|(apply OKx_fldO;exact rfl;exact rfl)|(apply OKx_boxA;exact rfl;intro _))
  all_goals
    refine bodyQ_r1 (by ((conv=>lhs;whnf)<;>exact rfl)) ?_
    refine ⟨_, Ent.nil, bool_eq ?_, rfl⟩
    rfl
set_option maxRecDepth 100000 in
set_option maxHeartbeats 4000000 in
theorem kind4_sat : KndS 162 4 := by
  intro xv cv x b r w hE hQ hb hr
  obtain ⟨pv, g, rfl, hs, _⟩ := hE.shape
  obtain ⟨bv, wv, sv, rfl, hB, hW, hS⟩ := hQ
  have hBs := hB.sl
  have hWs := hW.sl
  have hSs := hS.sl
  have hw : wdsB r.words = true := by unfold rdgB at hr; rw [Bool.and_eq_true] at hr; exact hr.2
  obtain ⟨ba, bc, rfl, hbl, _⟩ := hB.at
  obtain ⟨wa, wc, rfl, hwl, _⟩ := hW.at
  obtain ⟨sa, sc, rfl, hsl, _⟩ := hS.at
  have hq := fun w1 (h : Below w.heap.size w w1) => equalB_sat _ _ b r.words w1 (hB.below h) (hW.below h)
  have hl1 := ((wdsB_iff b).1 hb).1
  have hl2 := ((wdsB_iff r.words).1 hw).1
  have hk1 := fun w1 (h : Below w.heap.size w w1) => sortedK_sat ba bc b w1 (hB.below h) (by omega)
  have hk2 := fun w1 (h : Below w.heap.size w w1) => sortedK_sat wa wc r.words w1 (hW.below h) (by omega)
  have hlf : leafH 4 x.num x.text b r.words r.src.length = (!decide (b = r.words) && decide (b.Perm r.words)) := rfl
  cases hqq : decide (b = r.words) <;> rw [hqq] at hq
  rotate_left
  · refine SatL.of 25 [4] Tryz.func162 (by kernel_rfl) (by kernel_rfl) rfl rfl rfl rfl ?_
    repeat' (first|(apply OK_seq)|(apply thenQ_n)|(apply OK_region)|(apply OKx_gc 18;exact rfl; refine OKx_callV (f := 18) rfl rfl rfl (fun w1 hp => hq w1 hp.below) ?_)|(refine OK_rid 2 ?_; refine OK_quiet (id := 2) (by kernel_rfl) (by kernel_rfl) ?_)|(apply OKx_nilK)|(apply OK_ret)|(apply OKx_move;(conv=>lhs;whnf)<;>exact rfl)|(apply OKx_assign;(conv=>lhs;whnf)<;>exact rfl)|(apply OKx_ldB;exact rfl; (apply atP;constructor);exact rfl)|(apply OKx_fldO;exact rfl;exact rfl)|(apply OKx_pickF;exact rfl;(conv=>lhs;whnf)<;>exact rfl)|(apply OKx_guardF;exact rfl;exact rfl)|(apply OKx_notT;exact rfl)|(apply OKx_boxA;exact rfl;intro _))
    refine bodyQ_r1 (by ((conv=>lhs;whnf)<;>exact rfl)) ?_
    exact ⟨_, Ent.nil, bool_eq (by rw [hlf, hqq]; rfl), rfl⟩
  have hlb : ∀ x ∈ srtS b, x.size ≤ 140737488355328 := fun x hx => hB.2 x ((srtS_mem b).mem_iff.1 hx)
  have hlw : ∀ x ∈ srtS r.words, x.size ≤ 140737488355328 := fun x hx => hW.2 x ((srtS_mem r.words).mem_iff.1 hx)
  have n1 := srtS_len b
  have n2 := srtS_len r.words
  have hfin : decide (srtS b = srtS r.words) = decide (b.Perm r.words) := decide_eq_decide.2 (srtS_perm _ _)
  rw [hlf, hqq, ← hfin]
  refine SatL.of 25 [4] Tryz.func162 (by kernel_rfl) (by kernel_rfl) rfl rfl rfl rfl ?_
  repeat' (first|(apply OK_seq)|(apply thenQ_n)|(apply OK_region)|(apply OKx_gc 18;exact rfl; refine OKx_callV (f := 18) rfl rfl rfl (fun w1 hp => hq w1 hp.below) ?_)|(apply OKx_gc 163;exact rfl; refine OKx_call (f := 163) rfl rfl (fun w1 hp => hk1 w1 hp.below) ?_; rintro _ _ ⟨a2, c2, rfl, rfl⟩; rw [List.cons_append, List.nil_append])|(apply OKx_gc 163;exact rfl; refine OKx_call (f := 163) rfl rfl (fun w1 hp => hk2 w1 hp.below) ?_; rintro _ _ ⟨a3, c3, rfl, rfl⟩; rw [List.cons_append, List.nil_append])|(apply OKx_gc 18;exact rfl; refine OKx_callV (f := 18) rfl rfl rfl (fun w1 hp => equalB_sat _ _ (srtS b) (srtS r.words) w1 (hp.strs 1 rfl (by omega) hlb) (hp.strs 0 rfl (by omega) hlw)) ?_)|(refine OK_rid 2 ?_; refine OK_pureAny 20 15 [0, 1, 2, 3, 4] [.box 63 _ [.slice ba b.length bc, .slice wa r.words.length wc, .slice sa r.src.length sc]] (id := 2) (by kernel_rfl) (by kernel_rfl) (by kernel_rfl) (by kernel_rfl) (by kernel_rfl) (by kernel_rfl) (by exact Ent.pick [0] rfl) (by ((try simp only [pickO, nthO, List.cons_append, List.nil_append]) <;> exact rfl)) ?_)|(apply OKx_nilK)|(apply OK_ret)|(apply OKx_move;(conv=>lhs;whnf)<;>exact rfl)|(apply OKx_assign;(conv=>lhs;whnf)<;>exact rfl)|(apply OKx_ldB;exact rfl; (apply atP;constructor);exact rfl)|(apply OKx_fldO;exact rfl;exact rfl)|(apply OKx_pickT;exact rfl;(conv=>lhs;whnf)<;>exact rfl)|(apply OKx_guardT;exact rfl;exact rfl)|(apply OKx_notF;exact rfl)|(apply OKx_boxA;exact rfl;intro _)|(refine OKc_step1 (S := [0, 1, 2, 3, 4]) (i1 := 5) (S1 := [0, 1, 2, 3, 4, 5]) (by first | exact Ent.refl _ _ | exact Ent.nil | exact Ent.pick [0] rfl | exact Ent.pick [1] rfl | exact Ent.pick [2] rfl | exact Ent.pick [3] rfl) (by kernel_rfl) (by kernel_rfl) rfl ?_)|(refine OKc_pure (S := [0, 1, 2, 3, 4, 5]) (i := 6) (S1 := [0, 1, 2, 3, 4, 5, 6]) (by kernel_rfl) (by kernel_rfl) rfl ?_)|(refine OKc_pure (S := [0, 1, 2, 3, 4, 5, 6]) (i := 7) (S1 := [0, 1, 2, 3, 4, 5, 6, 7]) (by kernel_rfl) (by kernel_rfl) rfl ?_)|(refine OKc_pure (S := [0, 1, 2, 3, 4, 5, 6, 7]) (i := 8) (S1 := [0, 1, 2, 3, 4, 5, 6, 7, 8]) (by kernel_rfl) (by kernel_rfl) rfl ?_)|(refine OKc_pure (S := [0, 1, 2, 3, 4, 5, 6, 7, 8]) (i := 9) (S1 := [0, 1, 2, 3, 4, 5, 6, 7, 8, 9]) (by kernel_rfl) (by kernel_rfl) rfl ?_)|(refine OKc_pure (S := [0, 1, 2, 3, 4, 5, 6, 7, 8, 9]) (i := 10) (S1 := [0, 1, 2, 3, 4, 5, 6, 7, 8, 9, 10]) (by kernel_rfl) (by kernel_rfl) rfl ?_)|(refine OKc_pure (S := [0, 1, 2, 3, 4, 5, 6, 7, 8, 9, 10]) (i := 12) (S1 := [0, 1, 2, 3, 4, 5, 6, 7, 8, 9, 10, 12]) (by kernel_rfl) (by kernel_rfl) rfl ?_)|(refine OKc_pure (S := [0, 1, 2, 3, 4, 5, 6, 7, 8, 9, 10, 12]) (i := 13) (S1 := [0, 1, 2, 3, 4, 5, 6, 7, 8, 9, 10, 12, 13]) (by kernel_rfl) (by kernel_rfl) rfl ?_)|(refine OKc_pure (S := [0, 1, 2, 3, 4, 5, 6, 7, 8, 9, 10, 12, 13]) (i := 14) (S1 := [0, 1, 2, 3, 4, 5, 6, 7, 8, 9, 10, 12, 13, 14]) (by kernel_rfl) (by kernel_rfl) rfl ?_)|(refine OKc_pure (S := [0, 1, 2, 3, 4, 5, 6, 7, 8, 9, 10, 12, 13, 14]) (i := 15) (S1 := [0, 1, 2, 3, 4, 5, 6, 7, 8, 9, 10, 12, 13, 14, 15]) (by kernel_rfl) (by kernel_rfl) rfl ?_)|(refine OKc_step1 (S := [0, 1, 2, 3, 4, 5, 6, 7, 8, 9, 10, 12, 13, 14, 15]) (i1 := 11) (S1 := [0, 1, 2, 3, 4, 5, 6, 7, 8, 9, 10, 11, 12, 13, 14, 15]) (by first | exact Ent.refl _ _ | exact Ent.nil | exact Ent.pick [0] rfl | exact Ent.pick [1] rfl | exact Ent.pick [2] rfl | exact Ent.pick [3] rfl) (by kernel_rfl) (by kernel_rfl) rfl ?_)|(refine OKc_step1 (S := [0, 1, 2, 3, 4, 5, 6, 7, 8, 9, 10, 11, 12, 13, 14, 15]) (i1 := 16) (S1 := [0, 1, 2, 3, 4, 5, 6, 7, 8, 9, 10, 11, 12, 13, 14, 15, 16]) (by first | exact Ent.refl _ _ | exact Ent.nil | exact Ent.pick [0] rfl | exact Ent.pick [1] rfl | exact Ent.pick [2] rfl | exact Ent.pick [3] rfl) (by kernel_rfl) (by kernel_rfl) rfl ?_)|(refine OKc_step1 (S := [0, 1, 2, 3, 4, 5, 6, 7, 8, 9, 10, 11, 12, 13, 14, 15, 16]) (i1 := 17) (S1 := [0, 1, 2, 3, 4, 5, 6, 7, 8, 9, 10, 11, 12, 13, 14, 15, 16, 17]) (by first | exact Ent.refl _ _ | exact Ent.nil | exact Ent.pick [0] rfl | exact Ent.pick [1] rfl | exact Ent.pick [2] rfl | exact Ent.pick [3] rfl) (by kernel_rfl) (by kernel_rfl) rfl ?_)|(refine OKc_pure (S := [0, 1, 2, 3, 4, 5, 6, 7, 8, 9, 10, 11, 12, 13, 14, 15, 16, 17]) (i := 18) (S1 := [0, 1, 2, 3, 4, 5, 6, 7, 8, 9, 10, 11, 12, 13, 14, 15, 16, 17, 18]) (by kernel_rfl) (by kernel_rfl) rfl ?_)|(refine OKc_pure (S := [0, 1, 2, 3, 4, 5, 6, 7, 8, 9, 10, 11, 12, 13, 14, 15, 16, 17, 18]) (i := 19) (S1 := [0, 1, 2, 3, 4, 5, 6, 7, 8, 9, 10, 11, 12, 13, 14, 15, 16, 17, 18, 19]) (by kernel_rfl) (by kernel_rfl) rfl ?_)|(refine OKc_end (S := [0, 1, 2, 3, 4, 5, 6, 7, 8, 9, 10, 11, 12, 13, 14, 15, 16, 17, 18, 19]) (by kernel_rfl) (by first | exact Ent.refl _ _ | exact Ent.nil | exact Ent.pick [0] rfl | exact Ent.pick [1] rfl | exact Ent.pick [2] rfl | exact Ent.pick [3] rfl) ?_))
  all_goals
    refine bodyQ_r1 (by ((conv=>lhs;whnf)<;>exact rfl)) ?_
    exact ⟨_, Ent.nil, bool_eq (Bool.true_and _).symm, rfl⟩
end Go.Proofs.YthnlnffmmioapaaGreatDoor
