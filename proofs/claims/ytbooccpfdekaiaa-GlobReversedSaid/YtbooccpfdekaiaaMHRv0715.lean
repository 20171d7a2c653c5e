/-
  Part 15 of the proof: La07, Lb07, Bt07, Lc07, Lx07. No statement of the seat is proved here.
-/
import Derived.Test.YtbooccpfdekaiaaMHRv0714
namespace Go.Proofs.Ytbooccpfdekaiaa
open Go.RowKit
theorem exCom {u : Value} {L : List Res} (h : ComR (pat [97, 42]) (pat [42, 98]) 8 u L) : L = [] ∧ u = .tuple #[.string (bOf [97, 98]), .bool true, .int .i64 0] := by
  obtain ⟨rfl, ⟨w, rfl, h⟩ | ⟨_, h⟩⟩ := h
  · rw [exFirst h]; exact ⟨rfl, rfl⟩
  · exact absurd exGood (h _)
set_option maxRecDepth 100000 in
set_option maxHeartbeats 4000000 in
theorem awake07_sat (w : World) : SatV Try.prog 13 [] w (.bool true) := by
  have c1 := fun w1 => Match_sat [100, 101, 42, 115] [100, 101, 117, 115] w1 (by decide) (by decide)
  have c2 := fun w1 => Match_sat [100, 101, 42, 115] [100, 101, 117, 109] w1 (by decide) (by decide)
  have c3 := fun w1 => Literal_sat [91, 100, 93, 101, 117, 115] w1 (by decide)
  have c4 := fun w1 => Bounds_sat [97, 63, 91, 98, 99, 93, 42] w1 (by decide)
  have c5 := fun w1 => Common_sat [97, 42] [42, 98] 8 w1 exEa exEb (by decide) (by decide) (by decide)
  rw [exM0.1, exM0.2] at c1
  rw [exM1.1, exM1.2] at c2
  rw [exLit.1, exLit.2.1, exLit.2.2] at c3
  rw [exBnd] at c4
  dsimp only at c4
  refine SatL.of 73 [0] Try.func13 (by kernel_rfl) (by kernel_rfl) rfl rfl rfl rfl ?_
  repeat' (first|(apply OK_seq)|(apply thenQ_n)|(apply OK_region)|(apply OKx_gc 14;exact rfl; refine OKx_callV (f := 14) (v := .tuple #[.bool true, .int .i64 0]) rfl rfl rfl (fun w1 hp => c1 w1) ?_)|(apply OKx_gc 14;exact rfl; refine OKx_callV (f := 14) (v := .tuple #[.bool false, .int .i64 0]) rfl rfl rfl (fun w1 hp => c2 w1) ?_)|(apply OKx_gc 17;exact rfl; refine OKx_callV (f := 17) rfl rfl rfl (fun w1 hp => c3 w1) ?_)|(apply OKx_gc 15;exact rfl; refine OKx_callV (f := 15) rfl rfl rfl (fun w1 hp => c4 w1) ?_)|(apply OKx_gc 33;exact rfl; refine OKx_call (f := 33) rfl rfl (fun w1 hp => c5 w1) ?_; intro u L hu; obtain ⟨rfl, rfl⟩ := exCom hu; rw [List.nil_append])|(apply OKx_gn; apply OKx_seql;exact rfl;exact rfl; all_goals (intro hs; first | (exfalso; exact hs rfl) | skip))|(apply OKx_gb; refine OKx_max5 (r := 0) rfl rfl rfl rfl rfl (by decide) ?_)|(apply OKx_nilK)|(apply OK_block)|(apply blockQ_n)|(apply blockQ_s)|(apply thenQ_e)|(apply blockQ_e;exact rfl)|(apply thenQ_r)|(apply blockQ_r)|(apply OK_condT;exact rfl)|(apply OK_condF;exact rfl)|(apply OK_skip)|(apply OK_exit)|(apply OK_ret)|(apply OKx_move;(conv=>lhs;whnf)<;>exact rfl)|(apply OKx_assign;(conv=>lhs;whnf)<;>exact rfl)|(apply OKx_eql;exact rfl;exact rfl;all_goals (intro _; try (exfalso;omega)))|(apply OKx_seql;exact rfl;exact rfl; all_goals intro _)|(apply OKx_max;exact rfl;exact rfl)|(apply OKx_pickT;exact rfl;(conv=>lhs;whnf)<;>exact rfl)|(apply OKx_pickF;exact rfl;(conv=>lhs;whnf)<;>exact rfl)|(apply OKx_guardT;exact rfl;exact rfl)|(apply OKx_guardF;exact rfl;exact rfl)|(apply OKx_guardU;exact rfl;exact rfl)|(apply OKx_notT;exact rfl)|(apply OKx_notF;exact rfl)|(apply OKx_extract;exact rfl;(conv=>lhs;whnf)<;>exact rfl))
  refine bodyQ_r1 (by ((conv=>lhs;whnf)<;>exact rfl)) ?_
  exact ⟨_, Ent.nil, rfl, rfl⟩
set_option maxRecDepth 100000 in
set_option maxHeartbeats 4000000 in
theorem fine_sat (p : List UInt8) (w : World) (hp : p.length ≤ 140737488355328) : SatV Try.prog 11 [.string (bOf p)] w (.bool (fineB p)) := by
  have hz : (bOf p).size = p.length := bOf_size p
  have hb := patE_bd p
  have c1 := fun w1 => gCheck_sat p w1 hp
  unfold fineB
  by_cases h : p.length ≤ 12
  · by_cases he : patE p = 0
    · rw [decide_eq_true h, decide_eq_true he]
      refine SatL.of 11 [2] Try.func11 (by kernel_rfl) (by kernel_rfl) rfl rfl rfl rfl ?_
      repeat' (first|(apply OK_seq)|(apply thenQ_n)|(apply OK_region)|(apply OKx_gc 24;exact rfl; refine OKx_callV (f := 24) rfl rfl rfl (fun w1 hp => c1 w1) ?_)|(apply OKx_nilK)|(apply OK_block)|(apply blockQ_n)|(apply blockQ_s)|(apply thenQ_e)|(apply blockQ_e;exact rfl)|(apply thenQ_r)|(apply blockQ_r)|(apply OK_condT;exact rfl)|(apply OK_condF;exact rfl)|(apply OK_skip)|(apply OK_exit)|(apply OK_ret)|(apply OKx_move;(conv=>lhs;whnf)<;>exact rfl)|(apply OKx_assign;(conv=>lhs;whnf)<;>exact rfl)|(apply OKx_lenS;exact rfl)|(apply OKx_leq;exact rfl;exact rfl;all_goals (intro _; try (exfalso;omega)))|(apply OKx_eql;exact rfl;exact rfl;all_goals (intro _; try (exfalso;omega)))|(apply OKx_pickT;exact rfl;(conv=>lhs;whnf)<;>exact rfl)|(apply OKx_pickF;exact rfl;(conv=>lhs;whnf)<;>exact rfl)|(apply OKx_guardT;exact rfl;exact rfl)|(apply OKx_guardF;exact rfl;exact rfl)|(apply OKx_guardU;exact rfl;exact rfl))
      refine bodyQ_r1 (by ((conv=>lhs;whnf)<;>exact rfl)) ?_
      exact ⟨_, Ent.nil, rfl, rfl⟩
    · rw [decide_eq_true h, decide_eq_false he]
      refine SatL.of 11 [2] Try.func11 (by kernel_rfl) (by kernel_rfl) rfl rfl rfl rfl ?_
      repeat' (first|(apply OK_seq)|(apply thenQ_n)|(apply OK_region)|(apply OKx_gc 24;exact rfl; refine OKx_callV (f := 24) rfl rfl rfl (fun w1 hp => c1 w1) ?_)|(apply OKx_nilK)|(apply OK_block)|(apply blockQ_n)|(apply blockQ_s)|(apply thenQ_e)|(apply blockQ_e;exact rfl)|(apply thenQ_r)|(apply blockQ_r)|(apply OK_condT;exact rfl)|(apply OK_condF;exact rfl)|(apply OK_skip)|(apply OK_exit)|(apply OK_ret)|(apply OKx_move;(conv=>lhs;whnf)<;>exact rfl)|(apply OKx_assign;(conv=>lhs;whnf)<;>exact rfl)|(apply OKx_lenS;exact rfl)|(apply OKx_leq;exact rfl;exact rfl;all_goals (intro _; try (exfalso;omega)))|(apply OKx_eql;exact rfl;exact rfl;all_goals (intro _; try (exfalso;omega)))|(apply OKx_pickT;exact rfl;(conv=>lhs;whnf)<;>exact rfl)|(apply OKx_pickF;exact rfl;(conv=>lhs;whnf)<;>exact rfl)|(apply OKx_guardT;exact rfl;exact rfl)|(apply OKx_guardF;exact rfl;exact rfl)|(apply OKx_guardU;exact rfl;exact rfl))
      refine bodyQ_r1 (by ((conv=>lhs;whnf)<;>exact rfl)) ?_
      exact ⟨_, Ent.nil, rfl, rfl⟩
  · rw [decide_eq_false h, Bool.false_and]
    refine SatL.of 11 [2] Try.func11 (by kernel_rfl) (by kernel_rfl) rfl rfl rfl rfl ?_
    repeat' (first|(apply OK_seq)|(apply thenQ_n)|(apply OK_region)|(apply OKx_nilK)|(apply OK_block)|(apply blockQ_n)|(apply blockQ_s)|(apply thenQ_e)|(apply blockQ_e;exact rfl)|(apply thenQ_r)|(apply blockQ_r)|(apply OK_condT;exact rfl)|(apply OK_condF;exact rfl)|(apply OK_skip)|(apply OK_exit)|(apply OK_ret)|(apply OKx_move;(conv=>lhs;whnf)<;>exact rfl)|(apply OKx_assign;(conv=>lhs;whnf)<;>exact rfl)|(apply OKx_lenS;exact rfl)|(apply OKx_leq;exact rfl;exact rfl;all_goals (intro _; try (exfalso;omega)))|(apply OKx_eql;exact rfl;exact rfl;all_goals (intro _; try (exfalso;omega)))|(apply OKx_pickT;exact rfl;(conv=>lhs;whnf)<;>exact rfl)|(apply OKx_pickF;exact rfl;(conv=>lhs;whnf)<;>exact rfl)|(apply OKx_guardT;exact rfl;exact rfl)|(apply OKx_guardF;exact rfl;exact rfl)|(apply OKx_guardU;exact rfl;exact rfl))
    refine bodyQ_r1 (by ((conv=>lhs;whnf)<;>exact rfl)) ?_
    exact ⟨_, Ent.nil, rfl, rfl⟩
set_option maxRecDepth 100000 in
set_option maxHeartbeats 4000000 in
theorem plain07_sat (s : List UInt8) (w : World) : SatV Try.prog 12 [.string (bOf s)] w (.bool (plnB s)) := by
  have hz : (bOf s).size = s.length := bOf_size s
  have c1 := fun w1 => contains_one_sat s 32 w1
  unfold plnB
  by_cases h : s.length ≤ 12
  · rw [decide_eq_true h, Bool.true_and]
    cases hd : decide (32 ∈ s) with
    | true =>
      rw [hd] at c1
      refine SatL.of 11 [2] Try.func12 (by kernel_rfl) (by kernel_rfl) rfl rfl rfl rfl ?_
      repeat' (first|(apply OK_seq)|(apply thenQ_n)|(apply OK_region)|(apply OKx_gc 16;exact rfl; refine OKx_callV (f := 16) rfl rfl rfl (fun w1 hp => c1 w1) ?_)|(apply OKx_nilK)|(apply OK_block)|(apply blockQ_n)|(apply blockQ_s)|(apply thenQ_e)|(apply blockQ_e;exact rfl)|(apply thenQ_r)|(apply blockQ_r)|(apply OK_condT;exact rfl)|(apply OK_condF;exact rfl)|(apply OK_skip)|(apply OK_exit)|(apply OK_ret)|(apply OKx_move;(conv=>lhs;whnf)<;>exact rfl)|(apply OKx_assign;(conv=>lhs;whnf)<;>exact rfl)|(apply OKx_lenS;exact rfl)|(apply OKx_leq;exact rfl;exact rfl;all_goals (intro _; try (exfalso;omega)))|(apply OKx_pickT;exact rfl;(conv=>lhs;whnf)<;>exact rfl)|(apply OKx_pickF;exact rfl;(conv=>lhs;whnf)<;>exact rfl)|(apply OKx_guardT;exact rfl;exact rfl)|(apply OKx_guardF;exact rfl;exact rfl)|(apply OKx_guardU;exact rfl;exact rfl)|(apply OKx_notT;exact rfl)|(apply OKx_notF;exact rfl))
      refine bodyQ_r1 (by ((conv=>lhs;whnf)<;>exact rfl)) ?_
      exact ⟨_, Ent.nil, rfl, rfl⟩
    | false =>
      rw [hd] at c1
      refine SatL.of 11 [2] Try.func12 (by kernel_rfl) (by kernel_rfl) rfl rfl rfl rfl ?_
      repeat' (first|(apply OK_seq)|(apply thenQ_n)|(apply OK_region)|(apply OKx_gc 16;exact rfl; refine OKx_callV (f := 16) rfl rfl rfl (fun w1 hp => c1 w1) ?_)|(apply OKx_nilK)|(apply OK_block)|(apply blockQ_n)|(apply blockQ_s)|(apply thenQ_e)|(apply blockQ_e;exact rfl)|(apply thenQ_r)|(apply blockQ_r)|(apply OK_condT;exact rfl)|(apply OK_condF;exact rfl)|(apply OK_skip)|(apply OK_exit)|(apply OK_ret)|(apply OKx_move;(conv=>lhs;whnf)<;>exact rfl)|(apply OKx_assign;(conv=>lhs;whnf)<;>exact rfl)|(apply OKx_lenS;exact rfl)|(apply OKx_leq;exact rfl;exact rfl;all_goals (intro _; try (exfalso;omega)))|(apply OKx_pickT;exact rfl;(conv=>lhs;whnf)<;>exact rfl)|(apply OKx_pickF;exact rfl;(conv=>lhs;whnf)<;>exact rfl)|(apply OKx_guardT;exact rfl;exact rfl)|(apply OKx_guardF;exact rfl;exact rfl)|(apply OKx_guardU;exact rfl;exact rfl)|(apply OKx_notT;exact rfl)|(apply OKx_notF;exact rfl))
      refine bodyQ_r1 (by ((conv=>lhs;whnf)<;>exact rfl)) ?_
      exact ⟨_, Ent.nil, rfl, rfl⟩
  · rw [decide_eq_false h, Bool.false_and]
    refine SatL.of 11 [2] Try.func12 (by kernel_rfl) (by kernel_rfl) rfl rfl rfl rfl ?_
    repeat' (first|(apply OK_seq)|(apply thenQ_n)|(apply OK_region)|(apply OKx_nilK)|(apply OK_block)|(apply blockQ_n)|(apply blockQ_s)|(apply thenQ_e)|(apply blockQ_e;exact rfl)|(apply thenQ_r)|(apply blockQ_r)|(apply OK_condT;exact rfl)|(apply OK_condF;exact rfl)|(apply OK_skip)|(apply OK_exit)|(apply OK_ret)|(apply OKx_move;(conv=>lhs;whnf)<;>exact rfl)|(apply OKx_assign;(conv=>lhs;whnf)<;>exact rfl)|(apply OKx_lenS;exact rfl)|(apply OKx_leq;exact rfl;exact rfl;all_goals (intro _; try (exfalso;omega)))|(apply OKx_pickT;exact rfl;(conv=>lhs;whnf)<;>exact rfl)|(apply OKx_pickF;exact rfl;(conv=>lhs;whnf)<;>exact rfl)|(apply OKx_guardT;exact rfl;exact rfl)|(apply OKx_guardF;exact rfl;exact rfl)|(apply OKx_guardU;exact rfl;exact rfl)|(apply OKx_notT;exact rfl)|(apply OKx_notF;exact rfl))
    refine bodyQ_r1 (by ((conv=>lhs;whnf)<;>exact rfl)) ?_
    exact ⟨_, Ent.nil, rfl, rfl⟩
end Go.Proofs.Ytbooccpfdekaiaa
namespace Go.Proofs.Ytbooccpfdekaiaa
open Go.RowKit
theorem match_ok {p s : List UInt8} (hp : patE p = 0) (hs : chkS s = 0) (lp : p.length ≤ 140737488355328) (ls : s.length ≤ 140737488355328) (w : World) : SatV Try.prog 14 [.string (bOf p), .string (bOf s)] w (.tuple #[.bool (mtB (pat p) s), .int .i64 0]) := by
  have h := Match_sat p s w lp ls
  rw [(mtc_ok hp hs).1, (mtc_ok hp hs).2] at h
  exact h
theorem chk_sub {s t : List UInt8} (h : plnB s = true) (ht : ∀ d ∈ t, d ∈ s) (hl : t.length ≤ 64) : chkS t = 0 := by
  unfold plnB at h
  rw [Bool.and_eq_true, decide_eq_true_eq, Bool.not_eq_true', decide_eq_false_iff_not] at h
  unfold chkS
  rw [if_neg (by omega), if_neg (fun hm => h.2 (ht _ hm))]
end Go.Proofs.Ytbooccpfdekaiaa
namespace Go.Proofs.Ytbooccpfdekaiaa
open Go.RowKit
def BytesW (l : List UInt8) (o : Obj) : Prop := ∃ C e lo hi, o = .cells C e (lo, hi) ∧ l.length ≤ lo ∧ ∀ (j : Nat) (b : UInt8), l[j]? = some b → C[j]? = some (.int .u8 (b.toNat : Int))
section
variable {P : Program} {n : Nat} {w0 : World} {K : Fm → List Res → Prop} {F : Fm} {L : List Res} {m : Md} {Lw : List Res} {ops : Array Oper} {rest : List Oper} {d : Option Nat} {ty : TypeId} {pos : String} {aft : Array Edge}
theorem OKx_convSW {src dst e : TypeId} {x : Operand} {s : List UInt8} [hE : Keeps w0 L Lw] (hx : rv n F x = .string (bOf s)) (hs : P.underlying src = some .string) (hd : P.underlying dst = some (.slice e)) (he : P.underlying e = some (.int .u8))
    (kk : ∀ g c, s.length ≤ c → OKx P n w0 (.seq Lw) ops K rest (updo F d (.slice (some ⟨g, 0, none⟩) s.length c)) (.obj g (BytesW s) :: L)) :
    OKx P n w0 (.seq Lw) ops K (⟨d, .convert src dst x, ty, pos, aft, none⟩ :: rest) F L := by
  have hz : (bOf s).size = s.length := bOf_size s
  refine OKx_act hE.ent fun w hp => ⟨_, w.drew.alloc (.cells (bytesRow (bOf s) (grownCap w (bOf s).size 0 e)) e ((bytesRow (bOf s) (grownCap w (bOf s).size 0 e)).size, (bytesRow (bOf s) (grownCap w (bOf s).size 0 e)).size + 1)), _, ?_, ?_, kk w.heap.size (grownCap w (bOf s).size 0 e) (by have := grownCap_ge w (bOf s).size 0 e;omega)⟩
  · simp only [execOp, hx, Sem.run_bind, run_bytes_of_string w src dst e (bOf s) hs hd he, Result.andThen]
    rfl
  · refine hp.drew.fresh (r := .obj w.heap.size (BytesW s)) ⟨hp.base, _, heap_alloc_new w.drew _, _, _, _, _, rfl, ?_, ?_⟩ ((Below.refl _ _).alloc (Nat.le_refl _) _) (fun j hj => by simp [Res.blk] at hj; subst hj; exact Nat.le_refl _)
    · unfold bytesRow
      simp [bOf]
    · intro j b hj
      have hlt := (List.getElem?_eq_some_iff.1 hj).1
      unfold bytesRow
      rw [Array.getElem?_append_left (by simpa [bOf] using hlt)]
      simp [bOf, hj]
theorem Hp.bytesW {B : Nat} {w : World} (hp : Hp B w0 w L) (i : Nat) {g k : Nat} {s : List UInt8} (hi : L[i]? = some (.obj g (BytesW s))) (hk : k < s.length) : w.cell? ⟨g, k, .none⟩ = some (.int .u8 ((s.getD k 0).toNat : Int)) ∧ w.frozen? ⟨g, k, .none⟩ = false := by
  obtain ⟨_, o, ho, C, e, lo, hi', rfl, hl, hC⟩ : B ≤ g ∧ ∃ o, w.heap[g]? = some o ∧ BytesW s o := hp.ok _ (List.mem_of_getElem? hi)
  have := hC k (s.getD k 0) (by rw [getD_lt _ _ _ hk]; exact List.getElem?_eq_getElem hk)
  constructor
  · simp [World.cell?, ho, this]
  · simp [World.frozen?, ho]
    omega
theorem OKx_ldW7 {t : TypeId} {z : Value} [T : TOne P t z] {x : Operand} {g k : Nat} {s : List UInt8} (i : Nat) (hx : rv n F x = .pointer (some ⟨g, k, none⟩)) (hi : L[i]? = some (.obj g (BytesW s))) (hk : k < s.length)
    (kk : OKx P n w0 m ops K rest (updo F d (.int .u8 ((s.getD k 0).toNat : Int))) L) : OKx P n w0 m ops K (⟨d, .load t x, ty, pos, aft, none⟩ :: rest) F L :=
  OKx_still (fun w hp _ _ _ _ => run_load1 T hx (hp.bytesW i hi hk).1 _ _ _ _) kk
theorem OKx_stW7 {t : TypeId} {z : Value} [T : TOne P t z] {x y : Operand} {g k : Nat} {b : UInt8} {s : List UInt8} [hE : Keeps w0 L Lw] (i : Nat) (hx : rv n F x = .pointer (some ⟨g, k, none⟩)) (hy : rv n F y = .int .u8 (b.toNat : Int)) (hi : L[i]? = some (.obj g (BytesW s))) (hk : k < s.length)
    (kk : OKx P n w0 (.seq Lw) ops K rest (updo F d undef) (L.set i (.obj g (BytesW (s.set k b))))) : OKx P n w0 (.seq Lw) ops K (⟨d, .store t x y, ty, pos, aft, none⟩ :: rest) F L := by
  refine OKx_act0 hE.ent fun w hp => ⟨w.setCell ⟨g, k, none⟩ (.int .u8 (b.toNat : Int)), _, ?_, ?_, kk⟩
  · have h := hp.bytesW i hi hk
    exact run_store1 T hx hy rfl rfl h.1 h.2 _ _ _ _
  · obtain ⟨hB, o, ho, C, e, lo, hi', rfl, hl, hC⟩ : w0.heap.size ≤ g ∧ ∃ o, w.heap[g]? = some o ∧ BytesW s o := hp.ok _ (List.mem_of_getElem? hi)
    refine hp.turn hi (r' := .obj g (BytesW (s.set k b))) ⟨rfl, rfl, rfl, by simp, fun j _ hj => heap_setCell_other w ⟨g, k, .none⟩ j _ (fun e => hj (by simp [Res.blk, e]))⟩ ⟨hB, .cells (C.setIfInBounds k (.int .u8 (b.toNat : Int))) e (lo, hi'), by simp [World.setCell, Array.getElem?_modify, ho], _, _, _, _, rfl, by rw [List.length_set]; exact hl, ?_⟩ (fun j hj => .inl hj)
    intro j c hj
    have hkC : k < C.size := by
      have := hC k (s.getD k 0) (by rw [getD_lt _ _ _ hk]; exact List.getElem?_eq_getElem hk)
      exact (Array.getElem?_eq_some_iff.1 this).1
    by_cases hjk : k = j
    · subst hjk
      rw [List.getElem?_set_self hk] at hj
      cases hj
      rw [Array.getElem?_setIfInBounds_self, if_pos hkC]
    · rw [List.getElem?_set_ne hjk] at hj
      rw [Array.getElem?_setIfInBounds_ne hjk]
      exact hC j c hj
theorem OKx_convWS {src dst e : TypeId} {x : Operand} {s : List UInt8} {N g c : Nat} (i : Nat) (hx : rv n F x = .slice (some ⟨g, 0, none⟩) N c) (hN : N = s.length) (hi : L[i]? = some (.obj g (BytesW s))) (hs : P.underlying src = some (.slice e)) (he : P.underlying e = some (.int .u8)) (hd : P.underlying dst = some .string)
    (kk : OKx P n w0 m ops K rest (updo F d (.string (bOf s))) L) : OKx P n w0 m ops K (⟨d, .convert src dst x, ty, pos, aft, none⟩ :: rest) F L := by
  subst hN
  exact OKx_still (fun w hp _ _ _ _ => by
    have hr : (convert src dst (.slice (some ⟨g, 0, none⟩) s.length c)).run P w = .ok (.string (bOf s)) w := by
      refine run_convert_bytes_back w src dst e ⟨g, 0, none⟩ c s hs he hd fun j hj => ?_
      rw [add_at, Nat.zero_add, (hp.bytesW i hi hj).1, getD_lt _ _ _ hj]
    simp [execOp, hx, hr, Sem.run_bind, Result.andThen]) kk
end
def rvB (s u : List UInt8) (i : Nat) : Prop := u.length = s.length ∧ ∀ p, p < s.length → u.getD p 0 = if p < i ∨ s.length ≤ p + i then s.getD (s.length - 1 - p) 0 else s.getD p 0
theorem rvB_0 (s : List UInt8) : rvB s s 0 := ⟨rfl, fun p hp => by rw [if_neg (by omega)]⟩
theorem setD (l : List UInt8) (i : Nat) (b : UInt8) (p : Nat) (hi : i < l.length) : (l.set i b).getD p 0 = if i = p then b else l.getD p 0 := by
  rw [List.getD_eq_getElem?_getD, List.getD_eq_getElem?_getD, List.getElem?_set]
  by_cases h : i = p
  · subst h
    rw [if_pos rfl, if_pos rfl, if_pos hi]
    rfl
  · rw [if_neg h, if_neg h]
theorem rvB_step (s u : List UInt8) (i : Nat) (h : rvB s u i) (hi : i + 1 + i < s.length) : rvB s ((u.set i (u.getD (s.length - 1 - i) 0)).set (s.length - 1 - i) (u.getD i 0)) (i + 1) := by
  obtain ⟨hl, h⟩ := h
  refine ⟨by simp [hl], fun p hp => ?_⟩
  rw [setD _ _ _ _ (by rw [List.length_set];omega), setD _ _ _ _ (by omega)]
  have h1 := h p hp
  have h2 := h i (by omega)
  have h3 := h (s.length - 1 - i) (by omega)
  rw [if_neg (by omega)] at h2 h3
  by_cases e1 : s.length - 1 - i = p
  · rw [if_pos e1, if_pos (by omega), h2]
    congr 1;omega
  · rw [if_neg e1]
    by_cases e2 : i = p
    · rw [if_pos e2, if_pos (by omega), h3]
      congr 1;omega
    · rw [if_neg e2, h1]
      by_cases e3 : p < i ∨ s.length ≤ p + i
      · rw [if_pos e3, if_pos (by omega)]
      · rw [if_neg e3, if_neg (by omega)]
theorem rvB_end (s u : List UInt8) (i : Nat) (h : rvB s u i) (hi : s.length ≤ i + i + 1) : u = s.reverse := by
  obtain ⟨hl, h⟩ := h
  refine List.ext_getElem (by simp [hl]) fun p h1 h2 => ?_
  have h3 := h p (by omega)
  rw [getD_lt _ _ _ h1] at h3
  rw [h3, List.getElem_reverse]
  have h4 : p < s.length := by omega
  split
  · rw [getD_lt _ _ _ (by omega)]
  · rw [getD_lt _ _ _ h4]
    congr 1
    omega
set_option maxRecDepth 100000 in
set_option maxHeartbeats 4000000 in
theorem reverse_byte_sat (g n c : Nat) (s : List UInt8) (Z : List Res) (w : World) (hn : s.length = n) (hn8 : n ≤ 1000000) :
    SatL Try.prog 45 [.slice (some ⟨g, 0, none⟩) n c] w (.obj g (BytesW s) :: Z) (fun u L' => u = .tuple #[] ∧ L' = .obj g (BytesW s.reverse) :: Z) := by
  subst hn
  refine SatL.of 28 [] Try.func45 (by kernel_rfl) (by kernel_rfl) rfl rfl rfl rfl ?_
  repeat' (first|(apply OK_seq)|(apply thenQ_n)|(apply OK_region)|(refine OK_rid 3 ?_; refine OK_mix [2, 3] [0, 1, 4, 5, 6, 7, 8, 9, 10, 11, 12] [] [13, 14, 15] [] (id := 3) (by kernel_rfl) (by kernel_rfl) rfl (Ent.nil) (by ((try simp only [pickO, nthO, List.cons_append, List.nil_append]) <;> exact rfl)) (by ((try simp only [pickO, nthO, List.cons_append, List.nil_append]) <;> exact rfl)) (by ((try simp only [pickO]) <;> exact rfl)) (by ((try simp only [pickO, nthO, List.cons_append, List.nil_append]) <;> exact rfl)) ?_)|(apply OKx_nilK)|(apply OK_block)|(apply blockQ_n)|(apply blockQ_s)|(apply thenQ_e)|(apply blockQ_e;exact rfl)|(apply thenQ_r)|(apply blockQ_r)|(apply OK_condT;exact rfl)|(apply OK_condF;exact rfl)|(apply OK_skip)|(apply OK_exit)|(apply OK_ret)|(apply OKx_move;(conv=>lhs;whnf)<;>exact rfl)|(apply OKx_assign;(conv=>lhs;whnf)<;>exact rfl)|(apply OKx_ldB;exact rfl;(first | exact at0|exact at1|exact at2|exact at3|exact at4|exact at5|exact at6|exact at7);exact rfl)|(apply OKx_ldR;(conv=>lhs;whnf)<;>exact rfl;(with_reducible assumption))|(apply OKx_ldI;exact rfl;(first | exact at0|exact at1|exact at2|exact at3|exact at4|exact at5|exact at6|exact at7);omega)|(apply OKx_len;exact rfl)|(apply OKx_lenR;(conv=>lhs;whnf)<;>exact rfl;(with_reducible assumption))|(apply OKx_lenR2;(conv=>lhs;whnf)<;>exact rfl;(with_reducible assumption))|(apply OKx_lenO;(conv=>lhs;whnf)<;>exact rfl;(first | exact at0|exact at1|exact at2|exact at3|exact at4|exact at5|exact at6|exact at7))|(apply OKx_lss;exact rfl;exact rfl;all_goals (intro _; try (exfalso;omega)))|(apply OKx_idxO;exact rfl;exact rfl;omega)|(apply OKx_idxR;(conv=>lhs;whnf)<;>exact rfl;(with_reducible assumption);exact rfl;omega;intro _ _)|(apply OKx_idxOz;exact rfl;exact rfl;omega;omega)|(apply OKx_idxRz;(conv=>lhs;whnf)<;>exact rfl;(with_reducible assumption);exact rfl;omega;omega;intro _ _)|(apply OKx_inc;exact rfl;exact rfl;omega)|(apply OKx_addN;exact rfl;exact rfl;omega)|(apply OKx_add;exact rfl;exact rfl;omega;omega)|(apply OKx_dec;exact rfl;exact rfl;omega;omega)|(apply OKx_subN;exact rfl;exact rfl;omega;omega)|(apply OKx_sub;exact rfl;exact rfl;omega;omega)|(apply OKx_stI;exact rfl;exact rfl;(first | exact at0|exact at1|exact at2|exact at3|exact at4|exact at5|exact at6|exact at7);omega;exact rfl)|(apply OKx_stB;exact rfl;(conv=>lhs;whnf)<;>exact rfl;exact rfl;exact rfl;(first | exact at0|exact at1|exact at2|exact at3|exact at4|exact at5|exact at6|exact at7);exact rfl;exact rfl;exact rfl))
  refine OK_loop2 2 3 [2, 3, 7, 8, 9, 10, 11, 12, 13, 14, 15, 16, 17, 18, 19, 20, 21, 22, 23, 24, 25, 26, 27] (fun m u v L => ∃ (i : Nat) (z : Int) (us : List UInt8), i + m = s.length + 1 ∧ z = (s.length : Int) - 1 - i ∧ rvB s us i ∧ u = .int .i64 (i : Int) ∧ v = .int .i64 z ∧ L = .obj g (BytesW us) :: Z) (s.length + 1) _ (Ent.refl _ _) ⟨0, (s.length : Int) - 1 - (0 : Nat), s, by omega, rfl, rvB_0 s, rfl, int_eq (by omega), rfl⟩ ?_
  rintro m u v L G ⟨i, z, us, hm, hz, hk, rfl, rfl, rfl⟩
  by_cases hi : i + 1 + i < s.length
  · obtain ⟨j, rfl⟩ : ∃ j : Nat, z = (j : Int) := ⟨s.length - 1 - i, by omega⟩
    have hs := rvB_step s us i hk (by omega)
    have hul := hk.1
    have ej : s.length - 1 - i = j := by omega
    rw [ej] at hs
    repeat' (first|(apply OK_seq)|(apply thenQ_n)|(apply OK_region)|(apply OKx_gl; refine OKx_ldW7 (k := i) 0 rfl rfl (by omega) ?_)|(apply OKx_gl; refine OKx_ldW7 (k := j) 0 rfl rfl (by omega) ?_)|(apply OKx_gs; refine OKx_stW7 (k := i) (b := us.getD j 0) 0 rfl rfl rfl (by omega) ?_; rw [List.set_cons_zero])|(apply OKx_gs; refine OKx_stW7 (k := j) (b := us.getD i 0) 0 rfl rfl rfl (by rw [List.length_set];omega) ?_; rw [List.set_cons_zero])|(refine OK_rid 3 ?_; refine OK_mix [2, 3] [0, 1, 4, 5, 6, 7, 8, 9, 10, 11, 12] [] [13, 14, 15] [] (id := 3) (by kernel_rfl) (by kernel_rfl) rfl (Ent.nil) (by ((try simp only [pickO, nthO, List.cons_append, List.nil_append]) <;> exact rfl)) (by ((try simp only [pickO, nthO, List.cons_append, List.nil_append]) <;> exact rfl)) (by ((try simp only [pickO]) <;> exact rfl)) (by ((try simp only [pickO, nthO, List.cons_append, List.nil_append]) <;> exact rfl)) ?_)|(apply OKx_nilK)|(apply OK_block)|(apply blockQ_n)|(apply blockQ_s)|(apply thenQ_e)|(apply blockQ_e;exact rfl)|(apply thenQ_r)|(apply blockQ_r)|(apply OK_condT;exact rfl)|(apply OK_condF;exact rfl)|(apply OK_skip)|(apply OK_exit)|(apply OK_ret)|(apply OKx_move;(conv=>lhs;whnf)<;>exact rfl)|(apply OKx_assign;(conv=>lhs;whnf)<;>exact rfl)|(apply OKx_ldB;exact rfl;(first | exact at0|exact at1|exact at2|exact at3|exact at4|exact at5|exact at6|exact at7);exact rfl)|(apply OKx_ldR;(conv=>lhs;whnf)<;>exact rfl;(with_reducible assumption))|(apply OKx_ldI;exact rfl;(first | exact at0|exact at1|exact at2|exact at3|exact at4|exact at5|exact at6|exact at7);omega)|(apply OKx_len;exact rfl)|(apply OKx_lenR;(conv=>lhs;whnf)<;>exact rfl;(with_reducible assumption))|(apply OKx_lenR2;(conv=>lhs;whnf)<;>exact rfl;(with_reducible assumption))|(apply OKx_lenO;(conv=>lhs;whnf)<;>exact rfl;(first | exact at0|exact at1|exact at2|exact at3|exact at4|exact at5|exact at6|exact at7))|(apply OKx_lss;exact rfl;exact rfl;all_goals (intro _; try (exfalso;omega)))|(apply OKx_idxO;exact rfl;exact rfl;omega)|(apply OKx_idxR;(conv=>lhs;whnf)<;>exact rfl;(with_reducible assumption);exact rfl;omega;intro _ _)|(apply OKx_idxOz;exact rfl;exact rfl;omega;omega)|(apply OKx_idxRz;(conv=>lhs;whnf)<;>exact rfl;(with_reducible assumption);exact rfl;omega;omega;intro _ _)|(apply OKx_inc;exact rfl;exact rfl;omega)|(apply OKx_addN;exact rfl;exact rfl;omega)|(apply OKx_add;exact rfl;exact rfl;omega;omega)|(apply OKx_dec;exact rfl;exact rfl;omega;omega)|(apply OKx_subN;exact rfl;exact rfl;omega;omega)|(apply OKx_sub;exact rfl;exact rfl;omega;omega)|(apply OKx_stI;exact rfl;exact rfl;(first | exact at0|exact at1|exact at2|exact at3|exact at4|exact at5|exact at6|exact at7);omega;exact rfl)|(apply OKx_stB;exact rfl;(conv=>lhs;whnf)<;>exact rfl;exact rfl;exact rfl;(first | exact at0|exact at1|exact at2|exact at3|exact at4|exact at5|exact at6|exact at7);exact rfl;exact rfl;exact rfl))
    refine ⟨by (repeat' (first | refine agree_upd rfl ?_ | exact agree_over | exact agree_refl _ _ | refine agree_over2 rfl ?_)), m - 1, _, by omega, Ent.refl _ _, ?_⟩
    exact ⟨i + 1, (j : Int) - 1, _, by omega, by omega, hs, rfl, int_eq (by omega), rfl⟩
  · repeat' (first|(apply OK_seq)|(apply thenQ_n)|(apply OK_region)|(refine OK_rid 3 ?_; refine OK_mix [2, 3] [0, 1, 4, 5, 6, 7, 8, 9, 10, 11, 12] [] [13, 14, 15] [] (id := 3) (by kernel_rfl) (by kernel_rfl) rfl (Ent.nil) (by ((try simp only [pickO, nthO, List.cons_append, List.nil_append]) <;> exact rfl)) (by ((try simp only [pickO, nthO, List.cons_append, List.nil_append]) <;> exact rfl)) (by ((try simp only [pickO]) <;> exact rfl)) (by ((try simp only [pickO, nthO, List.cons_append, List.nil_append]) <;> exact rfl)) ?_)|(apply OKx_nilK)|(apply OK_block)|(apply blockQ_n)|(apply blockQ_s)|(apply thenQ_e)|(apply blockQ_e;exact rfl)|(apply thenQ_r)|(apply blockQ_r)|(apply OK_condT;exact rfl)|(apply OK_condF;exact rfl)|(apply OK_skip)|(apply OK_exit)|(apply OK_ret)|(apply OKx_move;(conv=>lhs;whnf)<;>exact rfl)|(apply OKx_assign;(conv=>lhs;whnf)<;>exact rfl)|(apply OKx_ldB;exact rfl;(first | exact at0|exact at1|exact at2|exact at3|exact at4|exact at5|exact at6|exact at7);exact rfl)|(apply OKx_ldR;(conv=>lhs;whnf)<;>exact rfl;(with_reducible assumption))|(apply OKx_ldI;exact rfl;(first | exact at0|exact at1|exact at2|exact at3|exact at4|exact at5|exact at6|exact at7);omega)|(apply OKx_len;exact rfl)|(apply OKx_lenR;(conv=>lhs;whnf)<;>exact rfl;(with_reducible assumption))|(apply OKx_lenR2;(conv=>lhs;whnf)<;>exact rfl;(with_reducible assumption))|(apply OKx_lenO;(conv=>lhs;whnf)<;>exact rfl;(first | exact at0|exact at1|exact at2|exact at3|exact at4|exact at5|exact at6|exact at7))|(apply OKx_lss;exact rfl;exact rfl;all_goals (intro _; try (exfalso;omega)))|(apply OKx_idxO;exact rfl;exact rfl;omega)|(apply OKx_idxR;(conv=>lhs;whnf)<;>exact rfl;(with_reducible assumption);exact rfl;omega;intro _ _)|(apply OKx_idxOz;exact rfl;exact rfl;omega;omega)|(apply OKx_idxRz;(conv=>lhs;whnf)<;>exact rfl;(with_reducible assumption);exact rfl;omega;omega;intro _ _)|(apply OKx_inc;exact rfl;exact rfl;omega)|(apply OKx_addN;exact rfl;exact rfl;omega)|(apply OKx_add;exact rfl;exact rfl;omega;omega)|(apply OKx_dec;exact rfl;exact rfl;omega;omega)|(apply OKx_subN;exact rfl;exact rfl;omega;omega)|(apply OKx_sub;exact rfl;exact rfl;omega;omega)|(apply OKx_stI;exact rfl;exact rfl;(first | exact at0|exact at1|exact at2|exact at3|exact at4|exact at5|exact at6|exact at7);omega;exact rfl)|(apply OKx_stB;exact rfl;(conv=>lhs;whnf)<;>exact rfl;exact rfl;exact rfl;(first | exact at0|exact at1|exact at2|exact at3|exact at4|exact at5|exact at6|exact at7);exact rfl;exact rfl;exact rfl))
    first | refine bodyQ_r0 ?_ | refine bodyQ_n0 ?_
    exact ⟨_, Ent.refl _ _, rfl, by rw [rvB_end s us i hk (by omega)]⟩
end Go.Proofs.Ytbooccpfdekaiaa
namespace Go.Proofs.Ytbooccpfdekaiaa
open Go.RowKit
set_option maxRecDepth 100000 in
set_option maxHeartbeats 4000000 in
theorem turned_sat (s : List UInt8) (w : World) (hs : s.length ≤ 1000000) : SatV Try.prog 26 [.string (bOf s)] w (.string (bOf s.reverse)) := by
  refine SatL.of 10 [2] Try.func26 (by kernel_rfl) (by kernel_rfl) rfl rfl rfl rfl ?_
  repeat' (first|(apply OK_seq)|(apply thenQ_n)|(apply OK_region)|(refine OKx_convSW (s := s) rfl Try.underlying9 Try.underlying53 Try.underlying5 ?_; intro g c hc)|(apply OKx_gc 45;exact rfl; refine OKx_callL (f := 45) rfl rfl (reverse_byte_sat _ _ _ s _ w rfl hs) ?_; rintro _ _ ⟨rfl, rfl⟩)|(refine OKx_convWS (s := s.reverse) 0 rfl (by rw [List.length_reverse]) rfl Try.underlying53 Try.underlying5 Try.underlying9 ?_)|(apply OKx_nilK)|(apply OK_block)|(apply blockQ_n)|(apply blockQ_s)|(apply thenQ_e)|(apply blockQ_e;exact rfl)|(apply thenQ_r)|(apply blockQ_r)|(apply OK_condT;exact rfl)|(apply OK_condF;exact rfl)|(apply OK_skip)|(apply OK_exit)|(apply OK_ret)|(apply OKx_move;(conv=>lhs;whnf)<;>exact rfl)|(apply OKx_assign;(conv=>lhs;whnf)<;>exact rfl))
  refine bodyQ_r1 (by ((conv=>lhs;whnf)<;>exact rfl)) ?_
  exact ⟨_, Ent.nil, rfl, rfl⟩
set_option maxRecDepth 100000 in
set_option maxHeartbeats 4000000 in
theorem GlobReversed_sat (p s : List UInt8) (w : World) (hp : p.length ≤ 140737488355328) :
    SatV Try.prog 8 [.string (bOf p), .string (bOf s)] w (.bool true) := by
  have cA := fun w1 => fine_sat p w1 hp
  have cC := fun w1 => plain07_sat s w1
  cases hA : fineB p with
  | false =>
    rw [hA] at cA
    refine SatL.of 71 [4] Try.func8 (by kernel_rfl) (by kernel_rfl) rfl rfl rfl rfl ?_
    repeat' (first|(apply OK_seq)|(apply thenQ_n)|(apply OK_region)|(apply OKx_gc 11;exact rfl; refine OKx_callV (f := 11) rfl rfl rfl (fun w1 hp => cA w1) ?_)|(apply OKx_gc 13;exact rfl; refine OKx_callV (f := 13) rfl rfl rfl (fun w1 hp => awake07_sat w1) ?_)|(apply OKx_nilK)|(apply OK_block)|(apply blockQ_n)|(apply blockQ_s)|(apply thenQ_e)|(apply blockQ_e;exact rfl)|(apply thenQ_r)|(apply blockQ_r)|(apply OK_condT;exact rfl)|(apply OK_condF;exact rfl)|(apply OK_skip)|(apply OK_exit)|(apply OK_ret)|(apply OKx_move;(conv=>lhs;whnf)<;>exact rfl)|(apply OKx_assign;(conv=>lhs;whnf)<;>exact rfl)|(apply OKx_lenS;exact rfl)|(apply OKx_eql;exact rfl;exact rfl;all_goals (intro _; try (exfalso;omega)))|(apply OKx_seql;exact rfl;exact rfl; all_goals intro _)|(apply OKx_max;exact rfl;exact rfl)|(apply OKx_pickT;exact rfl;(conv=>lhs;whnf)<;>exact rfl)|(apply OKx_pickF;exact rfl;(conv=>lhs;whnf)<;>exact rfl)|(apply OKx_guardT;exact rfl;exact rfl)|(apply OKx_guardF;exact rfl;exact rfl)|(apply OKx_guardU;exact rfl;exact rfl)|(apply OKx_notT;exact rfl)|(apply OKx_notF;exact rfl)|(apply OKx_extract;exact rfl;(conv=>lhs;whnf)<;>exact rfl))
    refine bodyQ_r1 (by ((conv=>lhs;whnf)<;>exact rfl)) ?_
    exact ⟨_, Ent.nil, rfl, rfl⟩
  | true =>
    rw [hA] at cA
    cases hC : plnB s with
    | false =>
      rw [hC] at cC
      refine SatL.of 71 [4] Try.func8 (by kernel_rfl) (by kernel_rfl) rfl rfl rfl rfl ?_
      repeat' (first|(apply OK_seq)|(apply thenQ_n)|(apply OK_region)|(apply OKx_gc 11;exact rfl; refine OKx_callV (f := 11) rfl rfl rfl (fun w1 hp => cA w1) ?_)|(apply OKx_gc 12;exact rfl; refine OKx_callV (f := 12) rfl rfl rfl (fun w1 hp => cC w1) ?_)|(apply OKx_gc 13;exact rfl; refine OKx_callV (f := 13) rfl rfl rfl (fun w1 hp => awake07_sat w1) ?_)|(apply OKx_nilK)|(apply OK_block)|(apply blockQ_n)|(apply blockQ_s)|(apply thenQ_e)|(apply blockQ_e;exact rfl)|(apply thenQ_r)|(apply blockQ_r)|(apply OK_condT;exact rfl)|(apply OK_condF;exact rfl)|(apply OK_skip)|(apply OK_exit)|(apply OK_ret)|(apply OKx_move;(conv=>lhs;whnf)<;>exact rfl)|(apply OKx_assign;(conv=>lhs;whnf)<;>exact rfl)|(apply OKx_lenS;exact rfl)|(apply OKx_eql;exact rfl;exact rfl;all_goals (intro _; try (exfalso;omega)))|(apply OKx_seql;exact rfl;exact rfl; all_goals intro _)|(apply OKx_max;exact rfl;exact rfl)|(apply OKx_pickT;exact rfl;(conv=>lhs;whnf)<;>exact rfl)|(apply OKx_pickF;exact rfl;(conv=>lhs;whnf)<;>exact rfl)|(apply OKx_guardT;exact rfl;exact rfl)|(apply OKx_guardF;exact rfl;exact rfl)|(apply OKx_guardU;exact rfl;exact rfl)|(apply OKx_notT;exact rfl)|(apply OKx_notF;exact rfl)|(apply OKx_extract;exact rfl;(conv=>lhs;whnf)<;>exact rfl))
      refine bodyQ_r1 (by ((conv=>lhs;whnf)<;>exact rfl)) ?_
      exact ⟨_, Ent.nil, rfl, rfl⟩
    | true =>
      rw [hC] at cC
      obtain ⟨lp, ep, erp⟩ := fine_of hA
      obtain ⟨ls, es⟩ := pln_of hC
      obtain ⟨r1, _, r3, r4, r5⟩ := revP_ok erp
      have er : patE (revP p) = 0 := by
        unfold patE
        rw [if_neg (by omega), r1]
      have m0 := fun w1 => match_ok ep es (by omega) (by omega) w1
      have m1 := fun w1 => match_ok (p := revP p) (s := s.reverse) er (chk_sub hC (fun d hd => List.mem_reverse.1 hd) (by rw [List.length_reverse];omega)) (by omega) (by rw [List.length_reverse];omega) w1
      rw [r3] at m1
      have hrev : mtB (pat p).reverse s.reverse = mtB (pat p) s := by rw [Bool.eq_iff_iff, mtB_iff, mtB_iff]; exact Mt_rev _ _
      rw [hrev] at m1
      have m2 := fun w1 => Reverse_sat p w1 hp
      have m3 := fun w1 => Reverse_sat (revP p) w1 (by omega)
      have hE : ∀ q, patE q = 0 → revE q = 0 ∧ revS q = revP q := fun q hq => ⟨if_neg (fun h => h hq), if_neg (fun h => h hq)⟩
      rw [(hE p ep).1, (hE p ep).2] at m2
      rw [(hE _ er).1, (hE _ er).2, r4] at m3
      have m4 := fun w1 => turned_sat s w1 (by omega)
      have hz1 : (bOf (revP p)).size = p.length := (bOf_size _).trans r5
      have hz2 : (bOf p).size = p.length := bOf_size p
      generalize mtB (pat p) s = x at m0 m1
      refine SatL.of 71 [4] Try.func8 (by kernel_rfl) (by kernel_rfl) rfl rfl rfl rfl ?_
      repeat' (first|(apply OK_seq)|(apply thenQ_n)|(apply OK_region)|(apply OKx_gc 11;exact rfl; refine OKx_callV (f := 11) rfl rfl rfl (fun w1 hp => cA w1) ?_)|(apply OKx_gc 12;exact rfl; refine OKx_callV (f := 12) rfl rfl rfl (fun w1 hp => cC w1) ?_)|(apply OKx_gc 13;exact rfl; refine OKx_callV (f := 13) rfl rfl rfl (fun w1 hp => awake07_sat w1) ?_)|(apply OKx_gc 22;exact rfl; refine OKx_callV (f := 22) rfl rfl rfl (fun w1 hp => m2 w1) ?_)|(apply OKx_gc 22;exact rfl; refine OKx_callV (f := 22) rfl rfl rfl (fun w1 hp => m3 w1) ?_)|(apply OKx_gc 14;exact rfl; refine OKx_callV (f := 14) rfl rfl rfl (fun w1 hp => m0 w1) ?_)|(apply OKx_gc 14;exact rfl; refine OKx_callV (f := 14) rfl rfl rfl (fun w1 hp => m1 w1) ?_)|(apply OKx_gc 26;exact rfl; refine OKx_callV (f := 26) rfl rfl rfl (fun w1 hp => m4 w1) ?_)|(apply OKx_gn; apply OKx_seql;exact rfl;exact rfl; all_goals (intro hs; first | (exfalso; exact hs rfl) | skip))|(apply OKx_gn; refine OKx_beqT Try.underlying4 rfl rfl ?_)|(apply OKx_gb; refine OKx_max4 (r := 0) rfl rfl rfl rfl (by decide) ?_)|(apply OKx_nilK)|(apply OK_block)|(apply blockQ_n)|(apply blockQ_s)|(apply thenQ_e)|(apply blockQ_e;exact rfl)|(apply thenQ_r)|(apply blockQ_r)|(apply OK_condT;exact rfl)|(apply OK_condF;exact rfl)|(apply OK_skip)|(apply OK_exit)|(apply OK_ret)|(apply OKx_move;(conv=>lhs;whnf)<;>exact rfl)|(apply OKx_assign;(conv=>lhs;whnf)<;>exact rfl)|(apply OKx_lenS;exact rfl)|(apply OKx_eql;exact rfl;exact rfl;all_goals (intro _; try (exfalso;omega)))|(apply OKx_seql;exact rfl;exact rfl; all_goals intro _)|(apply OKx_max;exact rfl;exact rfl)|(apply OKx_pickT;exact rfl;(conv=>lhs;whnf)<;>exact rfl)|(apply OKx_pickF;exact rfl;(conv=>lhs;whnf)<;>exact rfl)|(apply OKx_guardT;exact rfl;exact rfl)|(apply OKx_guardF;exact rfl;exact rfl)|(apply OKx_guardU;exact rfl;exact rfl)|(apply OKx_notT;exact rfl)|(apply OKx_notF;exact rfl)|(apply OKx_extract;exact rfl;(conv=>lhs;whnf)<;>exact rfl))
      refine bodyQ_r1 (by ((conv=>lhs;whnf)<;>exact rfl)) ?_
      exact ⟨_, Ent.nil, rfl, rfl⟩
end Go.Proofs.Ytbooccpfdekaiaa
namespace Go.Proofs.Ytbooccpfdekaiaa
open Go.RowKit
theorem GlobReversed_at (p : ByteArray) (s : ByteArray) (w : World) (hp : p.size ≤ 140737488355328) (hs : s.size ≤ 140737488355328) :
    SatV Try.prog 8 [.string p, .string s] w (.bool true) := by
  obtain ⟨p, rfl⟩ : ∃ l, p = bOf l := ⟨p.data.toList, (bOf_data p).symm⟩
  rw [bOf_size] at hp
  obtain ⟨s, rfl⟩ : ∃ l, s = bOf l := ⟨s.data.toList, (bOf_data s).symm⟩
  rw [bOf_size] at hs
  exact GlobReversed_sat p s w hp
end Go.Proofs.Ytbooccpfdekaiaa
