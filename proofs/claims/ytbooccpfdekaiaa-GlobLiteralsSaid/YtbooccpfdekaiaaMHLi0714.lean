/-
  Part 14 of the proof: La07, Lb07, Bt07, Lc07, Lx07. No statement of the seat is proved here.
-/
import Derived.Test.YtbooccpfdekaiaaMHLi0713
namespace Go.Proofs.Ytbooccpfdekaiaa
open Go.RowKit
theorem exCom {u : Value} {L : List Res} (h : ComR (pat [97, 42]) (pat [42, 98]) 8 u L) : L = [] ∧ u = .tuple #[.string (bOf [97, 98]), .bool true, .int .i64 0] := by
  obtain ⟨rfl, ⟨w, rfl, h⟩ | ⟨_, h⟩⟩ := h
  · rw [exFirst h]; exact ⟨rfl, rfl⟩
  · exact absurd exGood (h _)
set_option maxRecDepth 100000 in
set_option maxHeartbeats 4000000 in
theorem awake07_sat (w : World) : SatV Try.prog 13 [] w (.bool true) := by
  have c1 := fun w1 => Match_sat [100, 101, 42, 115] [100, 101, 117, 115] w1 (by decide) (by decide)
  have c2 := fun w1 => Match_sat [100, 101, 42, 115] [100, 101, 117, 109] w1 (by decide) (by decide)
  have c3 := fun w1 => Literal_sat [91, 100, 93, 101, 117, 115] w1 (by decide)
  have c4 := fun w1 => Bounds_sat [97, 63, 91, 98, 99, 93, 42] w1 (by decide)
  have c5 := fun w1 => Common_sat [97, 42] [42, 98] 8 w1 exEa exEb (by decide) (by decide) (by decide)
  rw [exM0.1, exM0.2] at c1
  rw [exM1.1, exM1.2] at c2
  rw [exLit.1, exLit.2.1, exLit.2.2] at c3
  rw [exBnd] at c4
  dsimp only at c4
  refine SatL.of 73 [0] Try.func13 (by kernel_rfl) (by kernel_rfl) rfl rfl rfl rfl ?_
  repeat' (first|(apply OK_seq)|(apply thenQ_n)|(apply OK_region)|(apply OKx_gc 14;exact rfl; refine OKx_callV (f := 14) (v := .tuple #[.bool true, .int .i64 0]) rfl rfl rfl (fun w1 hp => c1 w1) ?_)|(apply OKx_gc 14;exact rfl; refine OKx_callV (f := 14) (v := .tuple #[.bool false, .int .i64 0]) rfl rfl rfl (fun w1 hp => c2 w1) ?_)|(apply OKx_gc 17;exact rfl; refine OKx_callV (f := 17) rfl rfl rfl (fun w1 hp => c3 w1) ?_)|(apply OKx_gc 15;exact rfl; refine OKx_callV (f := 15) rfl rfl rfl (fun w1 hp => c4 w1) ?_)|(apply OKx_gc 33;exact rfl; refine OKx_call (f := 33) rfl rfl (fun w1 hp => c5 w1) ?_; intro u L hu; obtain ⟨rfl, rfl⟩ := exCom hu; rw [List.nil_append])|(apply OKx_gn; apply OKx_seql;exact rfl;exact rfl; all_goals (intro hs; first | (exfalso; exact hs rfl) | skip))|(apply OKx_gb; refine OKx_max5 (r := 0) rfl rfl rfl rfl rfl (by decide) ?_)|(apply OKx_nilK)|(apply OK_block)|(apply blockQ_n)|(apply blockQ_s)|(apply thenQ_e)|(apply blockQ_e;exact rfl)|(apply thenQ_r)|(apply blockQ_r)|(apply OK_condT;exact rfl)|(apply OK_condF;exact rfl)|(apply OK_skip)|(apply OK_exit)|(apply OK_ret)|(apply OKx_move;(conv=>lhs;whnf)<;>exact rfl)|(apply OKx_assign;(conv=>lhs;whnf)<;>exact rfl)|(apply OKx_eql;exact rfl;exact rfl;all_goals (intro _; try (exfalso;omega)))|(apply OKx_seql;exact rfl;exact rfl; all_goals intro _)|(apply OKx_max;exact rfl;exact rfl)|(apply OKx_pickT;exact rfl;(conv=>lhs;whnf)<;>exact rfl)|(apply OKx_pickF;exact rfl;(conv=>lhs;whnf)<;>exact rfl)|(apply OKx_guardT;exact rfl;exact rfl)|(apply OKx_guardF;exact rfl;exact rfl)|(apply OKx_guardU;exact rfl;exact rfl)|(apply OKx_notT;exact rfl)|(apply OKx_notF;exact rfl)|(apply OKx_extract;exact rfl;(conv=>lhs;whnf)<;>exact rfl))
  refine bodyQ_r1 (by ((conv=>lhs;whnf)<;>exact rfl)) ?_
  exact ⟨_, Ent.nil, rfl, rfl⟩
set_option maxRecDepth 100000 in
set_option maxHeartbeats 4000000 in
theorem fine_sat (p : List UInt8) (w : World) (hp : p.length ≤ 140737488355328) : SatV Try.prog 11 [.string (bOf p)] w (.bool (fineB p)) := by
  have hz : (bOf p).size = p.length := bOf_size p
  have hb := patE_bd p
  have c1 := fun w1 => gCheck_sat p w1 hp
  unfold fineB
  by_cases h : p.length ≤ 12
  · by_cases he : patE p = 0
    · rw [decide_eq_true h, decide_eq_true he]
      refine SatL.of 11 [2] Try.func11 (by kernel_rfl) (by kernel_rfl) rfl rfl rfl rfl ?_
      repeat' (first|(apply OK_seq)|(apply thenQ_n)|(apply OK_region)|(apply OKx_gc 24;exact rfl; refine OKx_callV (f := 24) rfl rfl rfl (fun w1 hp => c1 w1) ?_)|(apply OKx_nilK)|(apply OK_block)|(apply blockQ_n)|(apply blockQ_s)|(apply thenQ_e)|(apply blockQ_e;exact rfl)|(apply thenQ_r)|(apply blockQ_r)|(apply OK_condT;exact rfl)|(apply OK_condF;exact rfl)|(apply OK_skip)|(apply OK_exit)|(apply OK_ret)|(apply OKx_move;(conv=>lhs;whnf)<;>exact rfl)|(apply OKx_assign;(conv=>lhs;whnf)<;>exact rfl)|(apply OKx_lenS;exact rfl)|(apply OKx_leq;exact rfl;exact rfl;all_goals (intro _; try (exfalso;omega)))|(apply OKx_eql;exact rfl;exact rfl;all_goals (intro _; try (exfalso;omega)))|(apply OKx_pickT;exact rfl;(conv=>lhs;whnf)<;>exact rfl)|(apply OKx_pickF;exact rfl;(conv=>lhs;whnf)<;>exact rfl)|(apply OKx_guardT;exact rfl;exact rfl)|(apply OKx_guardF;exact rfl;exact rfl)|(apply OKx_guardU;exact rfl;exact rfl))
      refine bodyQ_r1 (by ((conv=>lhs;whnf)<;>exact rfl)) ?_
      exact ⟨_, Ent.nil, rfl, rfl⟩
    · rw [decide_eq_true h, decide_eq_false he]
      refine SatL.of 11 [2] Try.func11 (by kernel_rfl) (by kernel_rfl) rfl rfl rfl rfl ?_
      repeat' (first|(apply OK_seq)|(apply thenQ_n)|(apply OK_region)|(apply OKx_gc 24;exact rfl; refine OKx_callV (f := 24) rfl rfl rfl (fun w1 hp => c1 w1) ?_)|(apply OKx_nilK)|(apply OK_block)|(apply blockQ_n)|(apply blockQ_s)|(apply thenQ_e)|(apply blockQ_e;exact rfl)|(apply thenQ_r)|(apply blockQ_r)|(apply OK_condT;exact rfl)|(apply OK_condF;exact rfl)|(apply OK_skip)|(apply OK_exit)|(apply OK_ret)|(apply OKx_move;(conv=>lhs;whnf)<;>exact rfl)|(apply OKx_assign;(conv=>lhs;whnf)<;>exact rfl)|(apply OKx_lenS;exact rfl)|(apply OKx_leq;exact rfl;exact rfl;all_goals (intro _; try (exfalso;omega)))|(apply OKx_eql;exact rfl;exact rfl;all_goals (intro _; try (exfalso;omega)))|(apply OKx_pickT;exact rfl;(conv=>lhs;whnf)<;>exact rfl)|(apply OKx_pickF;exact rfl;(conv=>lhs;whnf)<;>exact rfl)|(apply OKx_guardT;exact rfl;exact rfl)|(apply OKx_guardF;exact rfl;exact rfl)|(apply OKx_guardU;exact rfl;exact rfl))
      refine bodyQ_r1 (by ((conv=>lhs;whnf)<;>exact rfl)) ?_
      exact ⟨_, Ent.nil, rfl, rfl⟩
  · rw [decide_eq_false h, Bool.false_and]
    refine SatL.of 11 [2] Try.func11 (by kernel_rfl) (by kernel_rfl) rfl rfl rfl rfl ?_
    repeat' (first|(apply OK_seq)|(apply thenQ_n)|(apply OK_region)|(apply OKx_nilK)|(apply OK_block)|(apply blockQ_n)|(apply blockQ_s)|(apply thenQ_e)|(apply blockQ_e;exact rfl)|(apply thenQ_r)|(apply blockQ_r)|(apply OK_condT;exact rfl)|(apply OK_condF;exact rfl)|(apply OK_skip)|(apply OK_exit)|(apply OK_ret)|(apply OKx_move;(conv=>lhs;whnf)<;>exact rfl)|(apply OKx_assign;(conv=>lhs;whnf)<;>exact rfl)|(apply OKx_lenS;exact rfl)|(apply OKx_leq;exact rfl;exact rfl;all_goals (intro _; try (exfalso;omega)))|(apply OKx_eql;exact rfl;exact rfl;all_goals (intro _; try (exfalso;omega)))|(apply OKx_pickT;exact rfl;(conv=>lhs;whnf)<;>exact rfl)|(apply OKx_pickF;exact rfl;(conv=>lhs;whnf)<;>exact rfl)|(apply OKx_guardT;exact rfl;exact rfl)|(apply OKx_guardF;exact rfl;exact rfl)|(apply OKx_guardU;exact rfl;exact rfl))
    refine bodyQ_r1 (by ((conv=>lhs;whnf)<;>exact rfl)) ?_
    exact ⟨_, Ent.nil, rfl, rfl⟩
set_option maxRecDepth 100000 in
set_option maxHeartbeats 4000000 in
theorem plain07_sat (s : List UInt8) (w : World) : SatV Try.prog 12 [.string (bOf s)] w (.bool (plnB s)) := by
  have hz : (bOf s).size = s.length := bOf_size s
  have c1 := fun w1 => contains_one_sat s 32 w1
  unfold plnB
  by_cases h : s.length ≤ 12
  · rw [decide_eq_true h, Bool.true_and]
    cases hd : decide (32 ∈ s) with
    | true =>
      rw [hd] at c1
      refine SatL.of 11 [2] Try.func12 (by kernel_rfl) (by kernel_rfl) rfl rfl rfl rfl ?_
      repeat' (first|(apply OK_seq)|(apply thenQ_n)|(apply OK_region)|(apply OKx_gc 16;exact rfl; refine OKx_callV (f := 16) rfl rfl rfl (fun w1 hp => c1 w1) ?_)|(apply OKx_nilK)|(apply OK_block)|(apply blockQ_n)|(apply blockQ_s)|(apply thenQ_e)|(apply blockQ_e;exact rfl)|(apply thenQ_r)|(apply blockQ_r)|(apply OK_condT;exact rfl)|(apply OK_condF;exact rfl)|(apply OK_skip)|(apply OK_exit)|(apply OK_ret)|(apply OKx_move;(conv=>lhs;whnf)<;>exact rfl)|(apply OKx_assign;(conv=>lhs;whnf)<;>exact rfl)|(apply OKx_lenS;exact rfl)|(apply OKx_leq;exact rfl;exact rfl;all_goals (intro _; try (exfalso;omega)))|(apply OKx_pickT;exact rfl;(conv=>lhs;whnf)<;>exact rfl)|(apply OKx_pickF;exact rfl;(conv=>lhs;whnf)<;>exact rfl)|(apply OKx_guardT;exact rfl;exact rfl)|(apply OKx_guardF;exact rfl;exact rfl)|(apply OKx_guardU;exact rfl;exact rfl)|(apply OKx_notT;exact rfl)|(apply OKx_notF;exact rfl))
      refine bodyQ_r1 (by ((conv=>lhs;whnf)<;>exact rfl)) ?_
      exact ⟨_, Ent.nil, rfl, rfl⟩
    | false =>
      rw [hd] at c1
      refine SatL.of 11 [2] Try.func12 (by kernel_rfl) (by kernel_rfl) rfl rfl rfl rfl ?_
      repeat' (first|(apply OK_seq)|(apply thenQ_n)|(apply OK_region)|(apply OKx_gc 16;exact rfl; refine OKx_callV (f := 16) rfl rfl rfl (fun w1 hp => c1 w1) ?_)|(apply OKx_nilK)|(apply OK_block)|(apply blockQ_n)|(apply blockQ_s)|(apply thenQ_e)|(apply blockQ_e;exact rfl)|(apply thenQ_r)|(apply blockQ_r)|(apply OK_condT;exact rfl)|(apply OK_condF;exact rfl)|(apply OK_skip)|(apply OK_exit)|(apply OK_ret)|(apply OKx_move;(conv=>lhs;whnf)<;>exact rfl)|(apply OKx_assign;(conv=>lhs;whnf)<;>exact rfl)|(apply OKx_lenS;exact rfl)|(apply OKx_leq;exact rfl;exact rfl;all_goals (intro _; try (exfalso;omega)))|(apply OKx_pickT;exact rfl;(conv=>lhs;whnf)<;>exact rfl)|(apply OKx_pickF;exact rfl;(conv=>lhs;whnf)<;>exact rfl)|(apply OKx_guardT;exact rfl;exact rfl)|(apply OKx_guardF;exact rfl;exact rfl)|(apply OKx_guardU;exact rfl;exact rfl)|(apply OKx_notT;exact rfl)|(apply OKx_notF;exact rfl))
      refine bodyQ_r1 (by ((conv=>lhs;whnf)<;>exact rfl)) ?_
      exact ⟨_, Ent.nil, rfl, rfl⟩
  · rw [decide_eq_false h, Bool.false_and]
    refine SatL.of 11 [2] Try.func12 (by kernel_rfl) (by kernel_rfl) rfl rfl rfl rfl ?_
    repeat' (first|(apply OK_seq)|(apply thenQ_n)|(apply OK_region)|(apply OKx_nilK)|(apply OK_block)|(apply blockQ_n)|(apply blockQ_s)|(apply thenQ_e)|(apply blockQ_e;exact rfl)|(apply thenQ_r)|(apply blockQ_r)|(apply OK_condT;exact rfl)|(apply OK_condF;exact rfl)|(apply OK_skip)|(apply OK_exit)|(apply OK_ret)|(apply OKx_move;(conv=>lhs;whnf)<;>exact rfl)|(apply OKx_assign;(conv=>lhs;whnf)<;>exact rfl)|(apply OKx_lenS;exact rfl)|(apply OKx_leq;exact rfl;exact rfl;all_goals (intro _; try (exfalso;omega)))|(apply OKx_pickT;exact rfl;(conv=>lhs;whnf)<;>exact rfl)|(apply OKx_pickF;exact rfl;(conv=>lhs;whnf)<;>exact rfl)|(apply OKx_guardT;exact rfl;exact rfl)|(apply OKx_guardF;exact rfl;exact rfl)|(apply OKx_guardU;exact rfl;exact rfl)|(apply OKx_notT;exact rfl)|(apply OKx_notF;exact rfl))
    refine bodyQ_r1 (by ((conv=>lhs;whnf)<;>exact rfl)) ?_
    exact ⟨_, Ent.nil, rfl, rfl⟩
end Go.Proofs.Ytbooccpfdekaiaa
namespace Go.Proofs.Ytbooccpfdekaiaa
open Go.RowKit
theorem match_ok {p s : List UInt8} (hp : patE p = 0) (hs : chkS s = 0) (lp : p.length ≤ 140737488355328) (ls : s.length ≤ 140737488355328) (w : World) : SatV Try.prog 14 [.string (bOf p), .string (bOf s)] w (.tuple #[.bool (mtB (pat p) s), .int .i64 0]) := by
  have h := Match_sat p s w lp ls
  rw [(mtc_ok hp hs).1, (mtc_ok hp hs).2] at h
  exact h
end Go.Proofs.Ytbooccpfdekaiaa
namespace Go.Proofs.Ytbooccpfdekaiaa
open Go.RowKit
def BytesW (l : List UInt8) (o : Obj) : Prop := ∃ C e lo hi, o = .cells C e (lo, hi) ∧ l.length ≤ lo ∧ ∀ (j : Nat) (b : UInt8), l[j]? = some b → C[j]? = some (.int .u8 (b.toNat : Int))
section
variable {P : Program} {n : Nat} {w0 : World} {K : Fm → List Res → Prop} {F : Fm} {L : List Res} {m : Md} {Lw : List Res} {ops : Array Oper} {rest : List Oper} {d : Option Nat} {ty : TypeId} {pos : String} {aft : Array Edge}
theorem OKx_convSW {src dst e : TypeId} {x : Operand} {s : List UInt8} [hE : Keeps w0 L Lw] (hx : rv n F x = .string (bOf s)) (hs : P.underlying src = some .string) (hd : P.underlying dst = some (.slice e)) (he : P.underlying e = some (.int .u8))
    (kk : ∀ g c, s.length ≤ c → OKx P n w0 (.seq Lw) ops K rest (updo F d (.slice (some ⟨g, 0, none⟩) s.length c)) (.obj g (BytesW s) :: L)) :
    OKx P n w0 (.seq Lw) ops K (⟨d, .convert src dst x, ty, pos, aft, none⟩ :: rest) F L := by
  have hz : (bOf s).size = s.length := bOf_size s
  refine OKx_act hE.ent fun w hp => ⟨_, w.drew.alloc (.cells (bytesRow (bOf s) (grownCap w (bOf s).size 0 e)) e ((bytesRow (bOf s) (grownCap w (bOf s).size 0 e)).size, (bytesRow (bOf s) (grownCap w (bOf s).size 0 e)).size + 1)), _, ?_, ?_, kk w.heap.size (grownCap w (bOf s).size 0 e) (by have := grownCap_ge w (bOf s).size 0 e;omega)⟩
  · simp only [execOp, hx, Sem.run_bind, run_bytes_of_string w src dst e (bOf s) hs hd he, Result.andThen]
    rfl
  · refine hp.drew.fresh (r := .obj w.heap.size (BytesW s)) ⟨hp.base, _, heap_alloc_new w.drew _, _, _, _, _, rfl, ?_, ?_⟩ ((Below.refl _ _).alloc (Nat.le_refl _) _) (fun j hj => by simp [Res.blk] at hj; subst hj; exact Nat.le_refl _)
    · unfold bytesRow
      simp [bOf]
    · intro j b hj
      have hlt := (List.getElem?_eq_some_iff.1 hj).1
      unfold bytesRow
      rw [Array.getElem?_append_left (by simpa [bOf] using hlt)]
      simp [bOf, hj]
theorem Hp.bytesW {B : Nat} {w : World} (hp : Hp B w0 w L) (i : Nat) {g k : Nat} {s : List UInt8} (hi : L[i]? = some (.obj g (BytesW s))) (hk : k < s.length) : w.cell? ⟨g, k, .none⟩ = some (.int .u8 ((s.getD k 0).toNat : Int)) ∧ w.frozen? ⟨g, k, .none⟩ = false := by
  obtain ⟨_, o, ho, C, e, lo, hi', rfl, hl, hC⟩ : B ≤ g ∧ ∃ o, w.heap[g]? = some o ∧ BytesW s o := hp.ok _ (List.mem_of_getElem? hi)
  have := hC k (s.getD k 0) (by rw [getD_lt _ _ _ hk]; exact List.getElem?_eq_getElem hk)
  constructor
  · simp [World.cell?, ho, this]
  · simp [World.frozen?, ho]
    omega
end
theorem Hp.bytesSl {B : Nat} {w0 w : World} {L : List Res} (hp : Hp B w0 w L) (i : Nat) {g c : Nat} {s : List UInt8} (hi : L[i]? = some (.obj g (BytesW s))) (hc : s.length ≤ c) (hs : s.length ≤ 140737488355328) : Sl w (.slice (some ⟨g, 0, .none⟩) s.length c) 1 s.length (fun j => .int .u8 ((s.getD j 0).toNat : Int)) :=
  ⟨hs, ⟨_, _, rfl, .inr ⟨_, _, rfl, fun j hj => by rw [Nat.zero_add]; exact (hp.bytesW i hi (by omega)).1⟩⟩, fun a m' c' h => by cases h; exact hc⟩
set_option maxRecDepth 100000 in
set_option maxHeartbeats 4000000 in
theorem indexF_byte_sat (v : Value) (N : Nat) (e : Nat → Value) (p : Nat → Bool) (g : FuncId) (cs : Array Value) (w : World) (h : Sl w v 1 N e) (hf : ∀ k, k < N → ∀ w1, Below w.heap.size w w1 → SatV Try.prog g (e k :: cs.toList) w1 (.bool (p k))) :
    Sat Try.prog 54 [v, .func (.func g) #[] cs] w (IdxR p N) := by
  have hN := h.bound
  refine SatL.of 19 [4] Try.func54 (by kernel_rfl) (by kernel_rfl) rfl rfl rfl rfl ?_
  repeat' (first|(apply OK_seq)|(apply thenQ_n)|(apply OK_region)|(apply OKx_nilK)|(apply OK_block)|(apply blockQ_n)|(apply blockQ_s)|(apply thenQ_e)|(apply blockQ_e;exact rfl)|(apply thenQ_r)|(apply blockQ_r)|(apply OK_condT;exact rfl)|(apply OK_condF;exact rfl)|(apply OK_skip)|(apply OK_exit)|(apply OK_ret)|(apply OKx_move;(conv=>lhs;whnf)<;>exact rfl)|(apply OKx_assign;(conv=>lhs;whnf)<;>exact rfl)|(apply OKx_ldB;exact rfl;(first | exact at0|exact at1|exact at2|exact at3|exact at4|exact at5|exact at6|exact at7);exact rfl)|(apply OKx_ldR;(conv=>lhs;whnf)<;>exact rfl;(with_reducible assumption))|(apply OKx_ldI;exact rfl;(first | exact at0|exact at1|exact at2|exact at3|exact at4|exact at5|exact at6|exact at7);omega)|(apply OKx_len;exact rfl)|(apply OKx_lenR;(conv=>lhs;whnf)<;>exact rfl;(with_reducible assumption))|(apply OKx_lenR2;(conv=>lhs;whnf)<;>exact rfl;(with_reducible assumption))|(apply OKx_lenO;(conv=>lhs;whnf)<;>exact rfl;(first | exact at0|exact at1|exact at2|exact at3|exact at4|exact at5|exact at6|exact at7))|(apply OKx_lss;exact rfl;exact rfl;all_goals (intro _; try (exfalso;omega)))|(apply OKx_idxO;exact rfl;exact rfl;omega)|(apply OKx_idxR;(conv=>lhs;whnf)<;>exact rfl;(with_reducible assumption);exact rfl;omega;intro _ _)|(apply OKx_idxOz;exact rfl;exact rfl;omega;omega)|(apply OKx_idxRz;(conv=>lhs;whnf)<;>exact rfl;(with_reducible assumption);exact rfl;omega;omega;intro _ _)|(apply OKx_inc;exact rfl;exact rfl;omega)|(apply OKx_addN;exact rfl;exact rfl;omega)|(apply OKx_add;exact rfl;exact rfl;omega;omega))
  refine OK_loop1 8 [4, 5, 8, 9, 10, 11, 12, 13, 14, 15, 16, 17, 18] (fun m v L => ∃ k : Nat, k + m = N ∧ v = .int .i64 (k : Int) ∧ (∀ j, j < k → p j = false) ∧ L = []) N [] (Ent.refl _ _) ⟨0, by omega, rfl, fun j hj => absurd hj (by omega), rfl⟩ ?_
  rintro m v' L G ⟨k, hm, rfl, H, rfl⟩
  repeat' (first|(apply OK_seq)|(apply thenQ_n)|(apply OK_region)|(refine OKx_callB (f := g) rfl rfl rfl (fun w hp => hf k (by omega) w hp.below) ?_ ?_ <;> intro hq)|(apply OKx_nilK)|(apply OK_block)|(apply blockQ_n)|(apply blockQ_s)|(apply thenQ_e)|(apply blockQ_e;exact rfl)|(apply thenQ_r)|(apply blockQ_r)|(apply OK_condT;exact rfl)|(apply OK_condF;exact rfl)|(apply OK_skip)|(apply OK_exit)|(apply OK_ret)|(apply OKx_move;(conv=>lhs;whnf)<;>exact rfl)|(apply OKx_assign;(conv=>lhs;whnf)<;>exact rfl)|(apply OKx_ldB;exact rfl;(first | exact at0|exact at1|exact at2|exact at3|exact at4|exact at5|exact at6|exact at7);exact rfl)|(apply OKx_ldR;(conv=>lhs;whnf)<;>exact rfl;(with_reducible assumption))|(apply OKx_ldI;exact rfl;(first | exact at0|exact at1|exact at2|exact at3|exact at4|exact at5|exact at6|exact at7);omega)|(apply OKx_len;exact rfl)|(apply OKx_lenR;(conv=>lhs;whnf)<;>exact rfl;(with_reducible assumption))|(apply OKx_lenR2;(conv=>lhs;whnf)<;>exact rfl;(with_reducible assumption))|(apply OKx_lenO;(conv=>lhs;whnf)<;>exact rfl;(first | exact at0|exact at1|exact at2|exact at3|exact at4|exact at5|exact at6|exact at7))|(apply OKx_lss;exact rfl;exact rfl;all_goals (intro _; try (exfalso;omega)))|(apply OKx_idxO;exact rfl;exact rfl;omega)|(apply OKx_idxR;(conv=>lhs;whnf)<;>exact rfl;(with_reducible assumption);exact rfl;omega;intro _ _)|(apply OKx_idxOz;exact rfl;exact rfl;omega;omega)|(apply OKx_idxRz;(conv=>lhs;whnf)<;>exact rfl;(with_reducible assumption);exact rfl;omega;omega;intro _ _)|(apply OKx_inc;exact rfl;exact rfl;omega)|(apply OKx_addN;exact rfl;exact rfl;omega)|(apply OKx_add;exact rfl;exact rfl;omega;omega))
  · refine bodyQ_r1 (by ((conv=>lhs;whnf)<;>exact rfl)) ?_
    exact ⟨_, Ent.refl _ _, _, rfl, rfl, by rw [anyN_hit (by omega) hq, decide_eq_true (by omega)]⟩
  · refine ⟨by (repeat' (first | refine agree_upd rfl ?_ | exact agree_over | exact agree_refl _ _ | refine agree_over2 rfl ?_)), m - 1, _, by omega, Ent.refl _ _, ?_⟩
    refine ⟨k + 1, by omega, rfl, fun j hj => ?_, rfl⟩
    by_cases hjk : j < k
    · exact H j hjk
    · obtain rfl : j = k := by omega
      exact hq
  · refine bodyQ_r1 (by ((conv=>lhs;whnf)<;>exact rfl)) ?_
    exact ⟨_, Ent.refl _ _, _, rfl, rfl, by rw [anyN_none fun j hj => H j (by omega)]; rfl⟩
set_option maxRecDepth 100000 in
set_option maxHeartbeats 4000000 in
theorem containsF_byte_sat (v : Value) (N : Nat) (e : Nat → Value) (p : Nat → Bool) (g : FuncId) (cs : Array Value) (w : World) (h : Sl w v 1 N e) (hf : ∀ k, k < N → ∀ w1, Below w.heap.size w w1 → SatV Try.prog g (e k :: cs.toList) w1 (.bool (p k))) :
    SatV Try.prog 38 [v, .func (.func g) #[] cs] w (.bool (anyN p N)) := by
  refine SatL.of 9 [4] Try.func38 (by kernel_rfl) (by kernel_rfl) rfl rfl rfl rfl ?_
  repeat' (first|(apply OK_seq)|(apply thenQ_n)|(apply OK_region)|(apply OKx_gc 54;exact rfl; refine OKx_call (f := 54) rfl rfl (fun w hp => indexF_byte_sat v N e p g cs w (h.below hp.below) (fun k hk w1 hb => hf k hk w1 (below_on hp.below hb))) ?_; rintro _ _ ⟨i, rfl, rfl, hi⟩)|(apply OKx_nilK)|(apply OK_block)|(apply blockQ_n)|(apply blockQ_s)|(apply thenQ_e)|(apply blockQ_e;exact rfl)|(apply thenQ_r)|(apply blockQ_r)|(apply OK_condT;exact rfl)|(apply OK_condF;exact rfl)|(apply OK_skip)|(apply OK_exit)|(apply OK_ret)|(apply OKx_move;(conv=>lhs;whnf)<;>exact rfl)|(apply OKx_assign;(conv=>lhs;whnf)<;>exact rfl)|(apply OKx_geq;exact rfl;exact rfl;all_goals (intro _; try (exfalso;omega))))
  all_goals
    refine bodyQ_r1 (by ((conv=>lhs;whnf)<;>exact rfl)) ?_
    exact ⟨_, Ent.refl _ _, bool_eq (by rw [hi]; simp;omega), rfl⟩
end Go.Proofs.Ytbooccpfdekaiaa
namespace Go.Proofs.Ytbooccpfdekaiaa
open Go.RowKit
set_option maxRecDepth 100000 in
set_option maxHeartbeats 4000000 in
theorem some1_sat (g : Nat) (c : UInt8) (cs : List UInt8) (w : World) (hg : Pt1 w (.pointer (some ⟨g, 0, none⟩)) (.string (bOf cs))) : SatV Try.prog 39 [.int .u8 (c.toNat : Int), .pointer (some ⟨g, 0, none⟩)] w (.bool (decide (c ∈ cs))) := by
  have h1 := idxB_mem cs c
  by_cases h : c ∈ cs
  · rw [decide_eq_true h]
    have h2 := h1.2 h
    refine SatL.of 8 [3] Try.func39 (by kernel_rfl) (by kernel_rfl) rfl rfl rfl rfl ?_
    repeat' (first|(apply OK_seq)|(apply thenQ_n)|(apply OK_region)|(apply OKx_gc 40;exact rfl; refine OKx_callV (f := 40) rfl rfl rfl (fun w1 hp => idxByte_sat cs c w1) ?_)|(apply OKx_nilK)|(apply OK_block)|(apply blockQ_n)|(apply blockQ_s)|(apply thenQ_e)|(apply blockQ_e;exact rfl)|(apply thenQ_r)|(apply blockQ_r)|(apply OK_condT;exact rfl)|(apply OK_condF;exact rfl)|(apply OK_skip)|(apply OK_exit)|(apply OK_ret)|(apply OKx_move;(conv=>lhs;whnf)<;>exact rfl)|(apply OKx_assign;(conv=>lhs;whnf)<;>exact rfl)|(apply OKx_ldB;exact rfl;(first | exact at0|exact at1|exact at2|exact at3|exact at4|exact at5|exact at6|exact at7);exact rfl)|(apply OKx_ldR;(conv=>lhs;whnf)<;>exact rfl;(with_reducible assumption))|(apply OKx_geq;exact rfl;exact rfl;all_goals (intro _; try (exfalso;omega))))
    refine bodyQ_r1 (by ((conv=>lhs;whnf)<;>exact rfl)) ?_
    exact ⟨_, Ent.nil, rfl, rfl⟩
  · rw [decide_eq_false h]
    have h2 : ¬ 0 ≤ Lib.indexByte cs c := fun hh => h (h1.1 hh)
    refine SatL.of 8 [3] Try.func39 (by kernel_rfl) (by kernel_rfl) rfl rfl rfl rfl ?_
    repeat' (first|(apply OK_seq)|(apply thenQ_n)|(apply OK_region)|(apply OKx_gc 40;exact rfl; refine OKx_callV (f := 40) rfl rfl rfl (fun w1 hp => idxByte_sat cs c w1) ?_)|(apply OKx_nilK)|(apply OK_block)|(apply blockQ_n)|(apply blockQ_s)|(apply thenQ_e)|(apply blockQ_e;exact rfl)|(apply thenQ_r)|(apply blockQ_r)|(apply OK_condT;exact rfl)|(apply OK_condF;exact rfl)|(apply OK_skip)|(apply OK_exit)|(apply OK_ret)|(apply OKx_move;(conv=>lhs;whnf)<;>exact rfl)|(apply OKx_assign;(conv=>lhs;whnf)<;>exact rfl)|(apply OKx_ldB;exact rfl;(first | exact at0|exact at1|exact at2|exact at3|exact at4|exact at5|exact at6|exact at7);exact rfl)|(apply OKx_ldR;(conv=>lhs;whnf)<;>exact rfl;(with_reducible assumption))|(apply OKx_geq;exact rfl;exact rfl;all_goals (intro _; try (exfalso;omega))))
    refine bodyQ_r1 (by ((conv=>lhs;whnf)<;>exact rfl)) ?_
    exact ⟨_, Ent.nil, rfl, rfl⟩
set_option maxRecDepth 100000 in
set_option maxHeartbeats 4000000 in
theorem some_sat (s cs : List UInt8) (w : World) (hs : s.length ≤ 140737488355328) : SatV Try.prog 18 [.string (bOf s), .string (bOf cs)] w (.bool (anyN (fun j => decide (s.getD j 0 ∈ cs)) s.length)) := by
  refine SatL.of 9 [4] Try.func18 (by kernel_rfl) (by kernel_rfl) rfl rfl rfl rfl ?_
  repeat' (first|(apply OK_seq)|(apply thenQ_n)|(apply OK_region)|(refine OKx_convSW (s := s) rfl Try.underlying9 Try.underlying53 Try.underlying5 ?_; intro g c hc)|(apply OKx_gc 38;exact rfl; refine OKx_callV (f := 38) rfl rfl rfl (fun w1 hp => containsF_byte_sat _ _ _ (fun j => decide (s.getD j 0 ∈ cs)) _ _ w1 (hp.bytesSl 0 rfl hc hs) (fun j hj w2 hb2 => some1_sat _ _ _ w2 (Pt1.below ⟨_, _, rfl, (hp.boxAt 1 rfl).1 0⟩ hb2))) ?_)|(apply OKx_nilK)|(apply OK_block)|(apply blockQ_n)|(apply blockQ_s)|(apply thenQ_e)|(apply blockQ_e;exact rfl)|(apply thenQ_r)|(apply blockQ_r)|(apply OK_condT;exact rfl)|(apply OK_condF;exact rfl)|(apply OK_skip)|(apply OK_exit)|(apply OK_ret)|(apply OKx_move;(conv=>lhs;whnf)<;>exact rfl)|(apply OKx_assign;(conv=>lhs;whnf)<;>exact rfl)|(apply OKx_box1;(conv=>lhs;whnf)<;>exact rfl;exact rfl;intro _)|(apply OKx_func;exact rfl;exact rfl))
  refine bodyQ_r1 (by ((conv=>lhs;whnf)<;>exact rfl)) ?_
  exact ⟨_, Ent.nil, rfl, rfl⟩
theorem bOf_inj7 {a b : List UInt8} (h : bOf a = bOf b) : a = b := by
  have h2 := congrArg (fun x : ByteArray => x.data.toList) h
  simpa [bOf] using h2
theorem any_of_mem {p cs : List UInt8} {c : UInt8} (hc : c ∈ p) (hcs : c ∈ cs) : anyN (fun j => decide (p.getD j 0 ∈ cs)) p.length = true := by
  obtain ⟨j, hj, rfl⟩ := List.getElem_of_mem hc
  exact anyN_hit hj (decide_eq_true (by rw [getD_lt _ _ _ hj]; exact hcs))
theorem elOne_ns {x : List UInt8} {c : UInt8} (hx : okPart x) (h : elOne x = some c) : c ≠ 32 := by
  obtain ⟨ha, hb⟩ := elOne_some h
  rintro rfl
  have h32 := (hb 32).2 rfl
  obtain ⟨h0, he, hl⟩ := hx
  cases x with
  | nil => exact h0 rfl
  | cons c t =>
    unfold elHas at h32 hb
    unfold elErr at he
    unfold elAny at ha
    dsimp only at h32 hb he ha
    have c42 : c ≠ 42 := fun e => by rw [decide_eq_true e] at ha; cases ha
    by_cases c63 : c = 63
    · have h0 := hb 0
      rw [if_pos c63] at h0
      exact absurd (h0.1 rfl) (by decide)
    rw [if_neg c63, if_neg c42] at h32
    rw [if_neg (by rintro (e | e); exact c63 e; exact c42 e)] at he
    by_cases c91 : c = 91
    · rw [if_pos c91] at h32 he
      split at he
      · cases he
      · split at he
        · rename_i hall
          have := List.all_eq_true.1 hall 32 (List.contains_iff_mem.1 h32)
          exact absurd this (by decide)
        · cases he
    · rw [if_neg c91, decide_eq_true_eq] at h32
      subst h32
      rw [if_neg c91, if_neg (by decide), if_neg (by decide)] at he
      cases he
theorem litL_ns : ∀ (l : List (List UInt8)) (v : List UInt8), (∀ x ∈ l, okPart x) → litL l = some v → 32 ∉ v ∧ v.length = l.length
  | [], v, _, h => by
    unfold litL at h
    cases h
    exact ⟨List.not_mem_nil, rfl⟩
  | x :: l, v, hx, h => by
    unfold litL at h
    split at h
    · rename_i c r h1 h2
      cases h
      obtain ⟨g1, g2⟩ := litL_ns l r (fun y hy => hx y (List.mem_cons_of_mem _ hy)) h2
      refine ⟨fun hm => ?_, by rw [List.length_cons, List.length_cons, g2]⟩
      rcases List.mem_cons.1 hm with e | hm
      · exact elOne_ns (hx x List.mem_cons_self) h1 e.symm
      · exact g1 hm
    · cases h
theorem chk_ns {v : List UInt8} (h : 32 ∉ v) (hl : v.length ≤ 64) : chkS v = 0 := by
  unfold chkS
  rw [if_neg (by omega), if_neg h]
set_option maxRecDepth 100000 in
set_option maxHeartbeats 4000000 in
theorem GlobLiterals_sat (p s : List UInt8) (w : World) (hp : p.length ≤ 140737488355328) :
    SatV Try.prog 6 [.string (bOf p), .string (bOf s)] w (.bool true) := by
  have cA := fun w1 => fine_sat p w1 hp
  have cC := fun w1 => plain07_sat s w1
  cases hA : fineB p with
  | false =>
    rw [hA] at cA
    refine SatL.of 75 [4] Try.func6 (by kernel_rfl) (by kernel_rfl) rfl rfl rfl rfl ?_
    repeat' (first|(apply OK_seq)|(apply thenQ_n)|(apply OK_region)|(apply OKx_gc 11;exact rfl; refine OKx_callV (f := 11) rfl rfl rfl (fun w1 hp => cA w1) ?_)|(apply OKx_gc 13;exact rfl; refine OKx_callV (f := 13) rfl rfl rfl (fun w1 hp => awake07_sat w1) ?_)|(apply OKx_nilK)|(apply OK_block)|(apply blockQ_n)|(apply blockQ_s)|(apply thenQ_e)|(apply blockQ_e;exact rfl)|(apply thenQ_r)|(apply blockQ_r)|(apply OK_condT;exact rfl)|(apply OK_condF;exact rfl)|(apply OK_skip)|(apply OK_exit)|(apply OK_ret)|(apply OKx_move;(conv=>lhs;whnf)<;>exact rfl)|(apply OKx_assign;(conv=>lhs;whnf)<;>exact rfl)|(apply OKx_eql;exact rfl;exact rfl;all_goals (intro _; try (exfalso;omega)))|(apply OKx_neq;exact rfl;exact rfl;all_goals (intro _; try (exfalso;omega)))|(apply OKx_seql;exact rfl;exact rfl; all_goals intro _)|(apply OKx_sneq;exact rfl;exact rfl; all_goals intro _)|(apply OKx_pickT;exact rfl;(conv=>lhs;whnf)<;>exact rfl)|(apply OKx_pickF;exact rfl;(conv=>lhs;whnf)<;>exact rfl)|(apply OKx_guardT;exact rfl;exact rfl)|(apply OKx_guardF;exact rfl;exact rfl)|(apply OKx_guardU;exact rfl;exact rfl)|(apply OKx_notT;exact rfl)|(apply OKx_notF;exact rfl)|(apply OKx_extract;exact rfl;(conv=>lhs;whnf)<;>exact rfl))
    refine bodyQ_r1 (by ((conv=>lhs;whnf)<;>exact rfl)) ?_
    exact ⟨_, Ent.nil, rfl, rfl⟩
  | true =>
    rw [hA] at cA
    cases hC : plnB s with
    | false =>
      rw [hC] at cC
      refine SatL.of 75 [4] Try.func6 (by kernel_rfl) (by kernel_rfl) rfl rfl rfl rfl ?_
      repeat' (first|(apply OK_seq)|(apply thenQ_n)|(apply OK_region)|(apply OKx_gc 11;exact rfl; refine OKx_callV (f := 11) rfl rfl rfl (fun w1 hp => cA w1) ?_)|(apply OKx_gc 12;exact rfl; refine OKx_callV (f := 12) rfl rfl rfl (fun w1 hp => cC w1) ?_)|(apply OKx_gc 13;exact rfl; refine OKx_callV (f := 13) rfl rfl rfl (fun w1 hp => awake07_sat w1) ?_)|(apply OKx_nilK)|(apply OK_block)|(apply blockQ_n)|(apply blockQ_s)|(apply thenQ_e)|(apply blockQ_e;exact rfl)|(apply thenQ_r)|(apply blockQ_r)|(apply OK_condT;exact rfl)|(apply OK_condF;exact rfl)|(apply OK_skip)|(apply OK_exit)|(apply OK_ret)|(apply OKx_move;(conv=>lhs;whnf)<;>exact rfl)|(apply OKx_assign;(conv=>lhs;whnf)<;>exact rfl)|(apply OKx_eql;exact rfl;exact rfl;all_goals (intro _; try (exfalso;omega)))|(apply OKx_neq;exact rfl;exact rfl;all_goals (intro _; try (exfalso;omega)))|(apply OKx_seql;exact rfl;exact rfl; all_goals intro _)|(apply OKx_sneq;exact rfl;exact rfl; all_goals intro _)|(apply OKx_pickT;exact rfl;(conv=>lhs;whnf)<;>exact rfl)|(apply OKx_pickF;exact rfl;(conv=>lhs;whnf)<;>exact rfl)|(apply OKx_guardT;exact rfl;exact rfl)|(apply OKx_guardF;exact rfl;exact rfl)|(apply OKx_guardU;exact rfl;exact rfl)|(apply OKx_notT;exact rfl)|(apply OKx_notF;exact rfl)|(apply OKx_extract;exact rfl;(conv=>lhs;whnf)<;>exact rfl))
      refine bodyQ_r1 (by ((conv=>lhs;whnf)<;>exact rfl)) ?_
      exact ⟨_, Ent.nil, rfl, rfl⟩
    | true =>
      rw [hC] at cC
      obtain ⟨lp, ep, erp⟩ := fine_of hA
      obtain ⟨ls, es⟩ := pln_of hC
      have m0 := fun w1 => match_ok ep es (by omega) (by omega) w1
      have m1 := fun w1 => Literal_sat p w1 hp
      have hE : litE p = 0 := if_neg (fun h => h ep)
      have hW : litW p = (litL (prts p)).getD [] := if_neg (fun h => h ep)
      have hB : litB p = (litL (prts p)).isSome := if_neg (fun h => h ep)
      rw [hE, hW, hB] at m1
      cases hlit : litL (prts p) with
      | none =>
        rw [hlit] at m1
        have m2 := fun w1 => some_sat p [63, 42, 91] w1 hp
        have hany : anyN (fun j => decide (p.getD j 0 ∈ [63, 42, 91])) p.length = true := by
          rcases lit_none erp hlit with h | h | h
          · exact any_of_mem h (by decide)
          · exact any_of_mem h (by decide)
          · exact any_of_mem h (by decide)
        rw [hany] at m2
        refine SatL.of 75 [4] Try.func6 (by kernel_rfl) (by kernel_rfl) rfl rfl rfl rfl ?_
        repeat' (first|(apply OK_seq)|(apply thenQ_n)|(apply OK_region)|(apply OKx_gc 11;exact rfl; refine OKx_callV (f := 11) rfl rfl rfl (fun w1 hp => cA w1) ?_)|(apply OKx_gc 12;exact rfl; refine OKx_callV (f := 12) rfl rfl rfl (fun w1 hp => cC w1) ?_)|(apply OKx_gc 13;exact rfl; refine OKx_callV (f := 13) rfl rfl rfl (fun w1 hp => awake07_sat w1) ?_)|(apply OKx_gc 17;exact rfl; refine OKx_callV (f := 17) rfl rfl rfl (fun w1 hp => m1 w1) ?_)|(apply OKx_gc 18;exact rfl; refine OKx_callV (f := 18) rfl rfl rfl (fun w1 hp => m2 w1) ?_)|(apply OKx_gn; apply OKx_sneq;exact rfl;exact rfl; all_goals (intro hs; first | (exfalso; exact hs rfl) | skip))|(apply OKx_nilK)|(apply OK_block)|(apply blockQ_n)|(apply blockQ_s)|(apply thenQ_e)|(apply blockQ_e;exact rfl)|(apply thenQ_r)|(apply blockQ_r)|(apply OK_condT;exact rfl)|(apply OK_condF;exact rfl)|(apply OK_skip)|(apply OK_exit)|(apply OK_ret)|(apply OKx_move;(conv=>lhs;whnf)<;>exact rfl)|(apply OKx_assign;(conv=>lhs;whnf)<;>exact rfl)|(apply OKx_eql;exact rfl;exact rfl;all_goals (intro _; try (exfalso;omega)))|(apply OKx_neq;exact rfl;exact rfl;all_goals (intro _; try (exfalso;omega)))|(apply OKx_seql;exact rfl;exact rfl; all_goals intro _)|(apply OKx_sneq;exact rfl;exact rfl; all_goals intro _)|(apply OKx_pickT;exact rfl;(conv=>lhs;whnf)<;>exact rfl)|(apply OKx_pickF;exact rfl;(conv=>lhs;whnf)<;>exact rfl)|(apply OKx_guardT;exact rfl;exact rfl)|(apply OKx_guardF;exact rfl;exact rfl)|(apply OKx_guardU;exact rfl;exact rfl)|(apply OKx_notT;exact rfl)|(apply OKx_notF;exact rfl)|(apply OKx_extract;exact rfl;(conv=>lhs;whnf)<;>exact rfl))
        refine bodyQ_r1 (by ((conv=>lhs;whnf)<;>exact rfl)) ?_
        exact ⟨_, Ent.nil, rfl, rfl⟩
      | some v =>
        rw [hlit] at m1
        have hlaw := litL_law (prts p) v hlit
        obtain ⟨hns, hvl⟩ := litL_ns (prts p) v (prts_ok _ p (Nat.le_refl _) erp).1 hlit
        have hpl := prts_len p
        have m2 := fun w1 => match_ok (s := v) ep (chk_ns hns (by omega)) (by omega) (by omega) w1
        have hv : mtB (pat p) v = true := (mtB_iff _ _).2 ((hlaw v).2 rfl)
        rw [hv] at m2
        by_cases hsv : s = v
        · subst hsv
          rw [hv] at m0
          refine SatL.of 75 [4] Try.func6 (by kernel_rfl) (by kernel_rfl) rfl rfl rfl rfl ?_
          repeat' (first|(apply OK_seq)|(apply thenQ_n)|(apply OK_region)|(apply OKx_gc 11;exact rfl; refine OKx_callV (f := 11) rfl rfl rfl (fun w1 hp => cA w1) ?_)|(apply OKx_gc 12;exact rfl; refine OKx_callV (f := 12) rfl rfl rfl (fun w1 hp => cC w1) ?_)|(apply OKx_gc 13;exact rfl; refine OKx_callV (f := 13) rfl rfl rfl (fun w1 hp => awake07_sat w1) ?_)|(apply OKx_gc 17;exact rfl; refine OKx_callV (f := 17) rfl rfl rfl (fun w1 hp => m1 w1) ?_)|(apply OKx_gc 14;exact rfl; refine OKx_callV (f := 14) rfl rfl rfl (fun w1 hp => m2 w1) ?_)|(apply OKx_gc 14;exact rfl; refine OKx_callV (f := 14) rfl rfl rfl (fun w1 hp => m0 w1) ?_)|(apply OKx_gn; apply OKx_seql;exact rfl;exact rfl; all_goals (intro hs; first | (exfalso; exact hs rfl) | skip))|(apply OKx_gn; refine OKx_beqT Try.underlying4 rfl rfl ?_)|(apply OKx_nilK)|(apply OK_block)|(apply blockQ_n)|(apply blockQ_s)|(apply thenQ_e)|(apply blockQ_e;exact rfl)|(apply thenQ_r)|(apply blockQ_r)|(apply OK_condT;exact rfl)|(apply OK_condF;exact rfl)|(apply OK_skip)|(apply OK_exit)|(apply OK_ret)|(apply OKx_move;(conv=>lhs;whnf)<;>exact rfl)|(apply OKx_assign;(conv=>lhs;whnf)<;>exact rfl)|(apply OKx_eql;exact rfl;exact rfl;all_goals (intro _; try (exfalso;omega)))|(apply OKx_neq;exact rfl;exact rfl;all_goals (intro _; try (exfalso;omega)))|(apply OKx_seql;exact rfl;exact rfl; all_goals intro _)|(apply OKx_sneq;exact rfl;exact rfl; all_goals intro _)|(apply OKx_pickT;exact rfl;(conv=>lhs;whnf)<;>exact rfl)|(apply OKx_pickF;exact rfl;(conv=>lhs;whnf)<;>exact rfl)|(apply OKx_guardT;exact rfl;exact rfl)|(apply OKx_guardF;exact rfl;exact rfl)|(apply OKx_guardU;exact rfl;exact rfl)|(apply OKx_notT;exact rfl)|(apply OKx_notF;exact rfl)|(apply OKx_extract;exact rfl;(conv=>lhs;whnf)<;>exact rfl))
          refine bodyQ_r1 (by ((conv=>lhs;whnf)<;>exact rfl)) ?_
          exact ⟨_, Ent.nil, rfl, rfl⟩
        · have hb : mtB (pat p) s = false := by
            cases hb : mtB (pat p) s with
            | false => rfl
            | true => exact absurd ((hlaw s).1 ((mtB_iff _ _).1 hb)) hsv
          rw [hb] at m0
          refine SatL.of 75 [4] Try.func6 (by kernel_rfl) (by kernel_rfl) rfl rfl rfl rfl ?_
          repeat' (first|(apply OK_seq)|(apply thenQ_n)|(apply OK_region)|(apply OKx_gc 11;exact rfl; refine OKx_callV (f := 11) rfl rfl rfl (fun w1 hp => cA w1) ?_)|(apply OKx_gc 12;exact rfl; refine OKx_callV (f := 12) rfl rfl rfl (fun w1 hp => cC w1) ?_)|(apply OKx_gc 13;exact rfl; refine OKx_callV (f := 13) rfl rfl rfl (fun w1 hp => awake07_sat w1) ?_)|(apply OKx_gc 17;exact rfl; refine OKx_callV (f := 17) rfl rfl rfl (fun w1 hp => m1 w1) ?_)|(apply OKx_gc 14;exact rfl; refine OKx_callV (f := 14) rfl rfl rfl (fun w1 hp => m2 w1) ?_)|(apply OKx_gc 14;exact rfl; refine OKx_callV (f := 14) rfl rfl rfl (fun w1 hp => m0 w1) ?_)|(apply OKx_gn; apply OKx_seql;exact rfl;exact rfl; all_goals (intro hs; first | (exfalso; exact hsv (bOf_inj7 hs)) | skip))|(apply OKx_gn; refine OKx_beqT Try.underlying4 rfl rfl ?_)|(apply OKx_nilK)|(apply OK_block)|(apply blockQ_n)|(apply blockQ_s)|(apply thenQ_e)|(apply blockQ_e;exact rfl)|(apply thenQ_r)|(apply blockQ_r)|(apply OK_condT;exact rfl)|(apply OK_condF;exact rfl)|(apply OK_skip)|(apply OK_exit)|(apply OK_ret)|(apply OKx_move;(conv=>lhs;whnf)<;>exact rfl)|(apply OKx_assign;(conv=>lhs;whnf)<;>exact rfl)|(apply OKx_eql;exact rfl;exact rfl;all_goals (intro _; try (exfalso;omega)))|(apply OKx_neq;exact rfl;exact rfl;all_goals (intro _; try (exfalso;omega)))|(apply OKx_seql;exact rfl;exact rfl; all_goals intro _)|(apply OKx_sneq;exact rfl;exact rfl; all_goals intro _)|(apply OKx_pickT;exact rfl;(conv=>lhs;whnf)<;>exact rfl)|(apply OKx_pickF;exact rfl;(conv=>lhs;whnf)<;>exact rfl)|(apply OKx_guardT;exact rfl;exact rfl)|(apply OKx_guardF;exact rfl;exact rfl)|(apply OKx_guardU;exact rfl;exact rfl)|(apply OKx_notT;exact rfl)|(apply OKx_notF;exact rfl)|(apply OKx_extract;exact rfl;(conv=>lhs;whnf)<;>exact rfl))
          refine bodyQ_r1 (by ((conv=>lhs;whnf)<;>exact rfl)) ?_
          exact ⟨_, Ent.nil, rfl, rfl⟩
end Go.Proofs.Ytbooccpfdekaiaa
namespace Go.Proofs.Ytbooccpfdekaiaa
open Go.RowKit
theorem GlobLiterals_at (p : ByteArray) (s : ByteArray) (w : World) (hp : p.size ≤ 140737488355328) (hs : s.size ≤ 140737488355328) :
    SatV Try.prog 6 [.string p, .string s] w (.bool true) := by
  obtain ⟨p, rfl⟩ : ∃ l, p = bOf l := ⟨p.data.toList, (bOf_data p).symm⟩
  rw [bOf_size] at hp
  obtain ⟨s, rfl⟩ : ∃ l, s = bOf l := ⟨s.data.toList, (bOf_data s).symm⟩
  rw [bOf_size] at hs
  exact GlobLiterals_sat p s w hp
end Go.Proofs.Ytbooccpfdekaiaa
