/-
  Part 14 of the proof: La07, Lb07, Lg07. No statement of the seat is proved here.
-/
import Derived.Test.YtbooccpfdekaiaaDoorMHSh0713
import Derived.Shelf.Strings.SlTrimAscii
namespace Go.Proofs.YtbooccpfdekaiaaDoor
open Go.RowKit
theorem exCom {u : Value} {L : List Res} (h : ComR (pat [97, 42]) (pat [42, 98]) 8 u L) : L = [] ∧ u = .tuple #[.string (bOf [97, 98]), .bool true, .int .i64 0] := by
  obtain ⟨rfl, ⟨w, rfl, h⟩ | ⟨_, h⟩⟩ := h
  · rw [exFirst h]; exact ⟨rfl, rfl⟩
  · exact absurd exGood (h _)
set_option maxRecDepth 100000 in
set_option maxHeartbeats 4000000 in
theorem awake07_sat (w : World) : SatV Tryd.prog 7 [] w (.bool true) := by
  have c1 := fun w1 => Match_sat [100, 101, 42, 115] [100, 101, 117, 115] w1 (by decide) (by decide)
  have c2 := fun w1 => Match_sat [100, 101, 42, 115] [100, 101, 117, 109] w1 (by decide) (by decide)
  have c3 := fun w1 => Literal_sat [91, 100, 93, 101, 117, 115] w1 (by decide)
  have c4 := fun w1 => Bounds_sat [97, 63, 91, 98, 99, 93, 42] w1 (by decide)
  have c5 := fun w1 => Common_sat [97, 42] [42, 98] 8 w1 exEa exEb (by decide) (by decide) (by decide)
  rw [exM0.1, exM0.2] at c1
  rw [exM1.1, exM1.2] at c2
  rw [exLit.1, exLit.2.1, exLit.2.2] at c3
  rw [exBnd] at c4
  dsimp only at c4
  refine SatL.of 73 [0] Tryd.func7 (by kernel_rfl) (by kernel_rfl) rfl rfl rfl rfl ?_
  repeat' (first|(apply OK_seq)|(apply thenQ_n)|(apply OK_region)|(apply OKx_gc 9;exact rfl; refine OKx_callV (f := 9) (v := .tuple #[.bool true, .int .i64 0]) rfl rfl rfl (fun w1 hp => c1 w1) ?_)|(apply OKx_gc 9;exact rfl; refine OKx_callV (f := 9) (v := .tuple #[.bool false, .int .i64 0]) rfl rfl rfl (fun w1 hp => c2 w1) ?_)|(apply OKx_gc 20;exact rfl; refine OKx_callV (f := 20) rfl rfl rfl (fun w1 hp => c3 w1) ?_)|(apply OKx_gc 21;exact rfl; refine OKx_callV (f := 21) rfl rfl rfl (fun w1 hp => c4 w1) ?_)|(apply OKx_gc 8;exact rfl; refine OKx_call (f := 8) rfl rfl (fun w1 hp => c5 w1) ?_; intro u L hu; obtain ⟨rfl, rfl⟩ := exCom hu; rw [List.nil_append])|(apply OKx_gn; apply OKx_seql;exact rfl;exact rfl; all_goals (intro hs; first | (exfalso; exact hs rfl) | skip))|(apply OKx_gb; refine OKx_max5 (r := 0) rfl rfl rfl rfl rfl (by decide) ?_)|(apply OKx_nilK)|(apply OK_block)|(apply blockQ_n)|(apply blockQ_s)|(apply thenQ_e)|(apply blockQ_e;exact rfl)|(apply thenQ_r)|(apply blockQ_r)|(apply OK_condT;exact rfl)|(apply OK_condF;exact rfl)|(apply OK_skip)|(apply OK_exit)|(apply OK_ret)|(apply OKx_move;(conv=>lhs;whnf)<;>exact rfl)|(apply OKx_assign;(conv=>lhs;whnf)<;>exact rfl)|(apply OKx_eql;exact rfl;exact rfl;all_goals (intro _; try (exfalso;omega)))|(apply OKx_seql;exact rfl;exact rfl; all_goals intro _)|(apply OKx_max;exact rfl;exact rfl)|(apply OKx_pickT;exact rfl;(conv=>lhs;whnf)<;>exact rfl)|(apply OKx_pickF;exact rfl;(conv=>lhs;whnf)<;>exact rfl)|(apply OKx_guardT;exact rfl;exact rfl)|(apply OKx_guardF;exact rfl;exact rfl)|(apply OKx_guardU;exact rfl;exact rfl)|(apply OKx_notT;exact rfl)|(apply OKx_notF;exact rfl)|(apply OKx_extract;exact rfl;(conv=>lhs;whnf)<;>exact rfl))
  refine bodyQ_r1 (by ((conv=>lhs;whnf)<;>exact rfl)) ?_
  exact ⟨_, Ent.nil, rfl, rfl⟩
set_option maxRecDepth 100000 in
set_option maxHeartbeats 4000000 in
theorem fine_sat (p : List UInt8) (w : World) (hp : p.length ≤ 140737488355328) : SatV Tryd.prog 4 [.string (bOf p)] w (.bool (fineB p)) := by
  have hz : (bOf p).size = p.length := bOf_size p
  have hb := patE_bd p
  have c1 := fun w1 => gCheck_sat p w1 hp
  unfold fineB
  by_cases h : p.length ≤ 12
  · by_cases he : patE p = 0
    · rw [decide_eq_true h, decide_eq_true he]
      refine SatL.of 11 [2] Tryd.func4 (by kernel_rfl) (by kernel_rfl) rfl rfl rfl rfl ?_
      repeat' (first|(apply OK_seq)|(apply thenQ_n)|(apply OK_region)|(apply OKx_gc 11;exact rfl; refine OKx_callV (f := 11) rfl rfl rfl (fun w1 hp => c1 w1) ?_)|(apply OKx_nilK)|(apply OK_block)|(apply blockQ_n)|(apply blockQ_s)|(apply thenQ_e)|(apply blockQ_e;exact rfl)|(apply thenQ_r)|(apply blockQ_r)|(apply OK_condT;exact rfl)|(apply OK_condF;exact rfl)|(apply OK_skip)|(apply OK_exit)|(apply OK_ret)|(apply OKx_move;(conv=>lhs;whnf)<;>exact rfl)|(apply OKx_assign;(conv=>lhs;whnf)<;>exact rfl)|(apply OKx_lenS;exact rfl)|(apply OKx_leq;exact rfl;exact rfl;all_goals (intro _; try (exfalso;omega)))|(apply OKx_eql;exact rfl;exact rfl;all_goals (intro _; try (exfalso;omega)))|(apply OKx_pickT;exact rfl;(conv=>lhs;whnf)<;>exact rfl)|(apply OKx_pickF;exact rfl;(conv=>lhs;whnf)<;>exact rfl)|(apply OKx_guardT;exact rfl;exact rfl)|(apply OKx_guardF;exact rfl;exact rfl)|(apply OKx_guardU;exact rfl;exact rfl))
      refine bodyQ_r1 (by ((conv=>lhs;whnf)<;>exact rfl)) ?_
      exact ⟨_, Ent.nil, rfl, rfl⟩
    · rw [decide_eq_true h, decide_eq_false he]
      refine SatL.of 11 [2] Tryd.func4 (by kernel_rfl) (by kernel_rfl) rfl rfl rfl rfl ?_
      repeat' (first|(apply OK_seq)|(apply thenQ_n)|(apply OK_region)|(apply OKx_gc 11;exact rfl; refine OKx_callV (f := 11) rfl rfl rfl (fun w1 hp => c1 w1) ?_)|(apply OKx_nilK)|(apply OK_block)|(apply blockQ_n)|(apply blockQ_s)|(apply thenQ_e)|(apply blockQ_e;exact rfl)|(apply thenQ_r)|(apply blockQ_r)|(apply OK_condT;exact rfl)|(apply OK_condF;exact rfl)|(apply OK_skip)|(apply OK_exit)|(apply OK_ret)|(apply OKx_move;(conv=>lhs;whnf)<;>exact rfl)|(apply OKx_assign;(conv=>lhs;whnf)<;>exact rfl)|(apply OKx_lenS;exact rfl)|(apply OKx_leq;exact rfl;exact rfl;all_goals (intro _; try (exfalso;omega)))|(apply OKx_eql;exact rfl;exact rfl;all_goals (intro _; try (exfalso;omega)))|(apply OKx_pickT;exact rfl;(conv=>lhs;whnf)<;>exact rfl)|(apply OKx_pickF;exact rfl;(conv=>lhs;whnf)<;>exact rfl)|(apply OKx_guardT;exact rfl;exact rfl)|(apply OKx_guardF;exact rfl;exact rfl)|(apply OKx_guardU;exact rfl;exact rfl))
      refine bodyQ_r1 (by ((conv=>lhs;whnf)<;>exact rfl)) ?_
      exact ⟨_, Ent.nil, rfl, rfl⟩
  · rw [decide_eq_false h, Bool.false_and]
    refine SatL.of 11 [2] Tryd.func4 (by kernel_rfl) (by kernel_rfl) rfl rfl rfl rfl ?_
    repeat' (first|(apply OK_seq)|(apply thenQ_n)|(apply OK_region)|(apply OKx_nilK)|(apply OK_block)|(apply blockQ_n)|(apply blockQ_s)|(apply thenQ_e)|(apply blockQ_e;exact rfl)|(apply thenQ_r)|(apply blockQ_r)|(apply OK_condT;exact rfl)|(apply OK_condF;exact rfl)|(apply OK_skip)|(apply OK_exit)|(apply OK_ret)|(apply OKx_move;(conv=>lhs;whnf)<;>exact rfl)|(apply OKx_assign;(conv=>lhs;whnf)<;>exact rfl)|(apply OKx_lenS;exact rfl)|(apply OKx_leq;exact rfl;exact rfl;all_goals (intro _; try (exfalso;omega)))|(apply OKx_eql;exact rfl;exact rfl;all_goals (intro _; try (exfalso;omega)))|(apply OKx_pickT;exact rfl;(conv=>lhs;whnf)<;>exact rfl)|(apply OKx_pickF;exact rfl;(conv=>lhs;whnf)<;>exact rfl)|(apply OKx_guardT;exact rfl;exact rfl)|(apply OKx_guardF;exact rfl;exact rfl)|(apply OKx_guardU;exact rfl;exact rfl))
    refine bodyQ_r1 (by ((conv=>lhs;whnf)<;>exact rfl)) ?_
    exact ⟨_, Ent.nil, rfl, rfl⟩
set_option maxRecDepth 100000 in
set_option maxHeartbeats 4000000 in
theorem plain07_sat (s : List UInt8) (w : World) : SatV Tryd.prog 5 [.string (bOf s)] w (.bool (plnB s)) := by
  have hz : (bOf s).size = s.length := bOf_size s
  have c1 := fun w1 => contains_one_sat s 32 w1
  unfold plnB
  by_cases h : s.length ≤ 12
  · rw [decide_eq_true h, Bool.true_and]
    cases hd : decide (32 ∈ s) with
    | true =>
      rw [hd] at c1
      refine SatL.of 11 [2] Tryd.func5 (by kernel_rfl) (by kernel_rfl) rfl rfl rfl rfl ?_
      repeat' (first|(apply OK_seq)|(apply thenQ_n)|(apply OK_region)|(apply OKx_gc 12;exact rfl; refine OKx_callV (f := 12) rfl rfl rfl (fun w1 hp => c1 w1) ?_)|(apply OKx_nilK)|(apply OK_block)|(apply blockQ_n)|(apply blockQ_s)|(apply thenQ_e)|(apply blockQ_e;exact rfl)|(apply thenQ_r)|(apply blockQ_r)|(apply OK_condT;exact rfl)|(apply OK_condF;exact rfl)|(apply OK_skip)|(apply OK_exit)|(apply OK_ret)|(apply OKx_move;(conv=>lhs;whnf)<;>exact rfl)|(apply OKx_assign;(conv=>lhs;whnf)<;>exact rfl)|(apply OKx_lenS;exact rfl)|(apply OKx_leq;exact rfl;exact rfl;all_goals (intro _; try (exfalso;omega)))|(apply OKx_pickT;exact rfl;(conv=>lhs;whnf)<;>exact rfl)|(apply OKx_pickF;exact rfl;(conv=>lhs;whnf)<;>exact rfl)|(apply OKx_guardT;exact rfl;exact rfl)|(apply OKx_guardF;exact rfl;exact rfl)|(apply OKx_guardU;exact rfl;exact rfl)|(apply OKx_notT;exact rfl)|(apply OKx_notF;exact rfl))
      refine bodyQ_r1 (by ((conv=>lhs;whnf)<;>exact rfl)) ?_
      exact ⟨_, Ent.nil, rfl, rfl⟩
    | false =>
      rw [hd] at c1
      refine SatL.of 11 [2] Tryd.func5 (by kernel_rfl) (by kernel_rfl) rfl rfl rfl rfl ?_
      repeat' (first|(apply OK_seq)|(apply thenQ_n)|(apply OK_region)|(apply OKx_gc 12;exact rfl; refine OKx_callV (f := 12) rfl rfl rfl (fun w1 hp => c1 w1) ?_)|(apply OKx_nilK)|(apply OK_block)|(apply blockQ_n)|(apply blockQ_s)|(apply thenQ_e)|(apply blockQ_e;exact rfl)|(apply thenQ_r)|(apply blockQ_r)|(apply OK_condT;exact rfl)|(apply OK_condF;exact rfl)|(apply OK_skip)|(apply OK_exit)|(apply OK_ret)|(apply OKx_move;(conv=>lhs;whnf)<;>exact rfl)|(apply OKx_assign;(conv=>lhs;whnf)<;>exact rfl)|(apply OKx_lenS;exact rfl)|(apply OKx_leq;exact rfl;exact rfl;all_goals (intro _; try (exfalso;omega)))|(apply OKx_pickT;exact rfl;(conv=>lhs;whnf)<;>exact rfl)|(apply OKx_pickF;exact rfl;(conv=>lhs;whnf)<;>exact rfl)|(apply OKx_guardT;exact rfl;exact rfl)|(apply OKx_guardF;exact rfl;exact rfl)|(apply OKx_guardU;exact rfl;exact rfl)|(apply OKx_notT;exact rfl)|(apply OKx_notF;exact rfl))
      refine bodyQ_r1 (by ((conv=>lhs;whnf)<;>exact rfl)) ?_
      exact ⟨_, Ent.nil, rfl, rfl⟩
  · rw [decide_eq_false h, Bool.false_and]
    refine SatL.of 11 [2] Tryd.func5 (by kernel_rfl) (by kernel_rfl) rfl rfl rfl rfl ?_
    repeat' (first|(apply OK_seq)|(apply thenQ_n)|(apply OK_region)|(apply OKx_nilK)|(apply OK_block)|(apply blockQ_n)|(apply blockQ_s)|(apply thenQ_e)|(apply blockQ_e;exact rfl)|(apply thenQ_r)|(apply blockQ_r)|(apply OK_condT;exact rfl)|(apply OK_condF;exact rfl)|(apply OK_skip)|(apply OK_exit)|(apply OK_ret)|(apply OKx_move;(conv=>lhs;whnf)<;>exact rfl)|(apply OKx_assign;(conv=>lhs;whnf)<;>exact rfl)|(apply OKx_lenS;exact rfl)|(apply OKx_leq;exact rfl;exact rfl;all_goals (intro _; try (exfalso;omega)))|(apply OKx_pickT;exact rfl;(conv=>lhs;whnf)<;>exact rfl)|(apply OKx_pickF;exact rfl;(conv=>lhs;whnf)<;>exact rfl)|(apply OKx_guardT;exact rfl;exact rfl)|(apply OKx_guardF;exact rfl;exact rfl)|(apply OKx_guardU;exact rfl;exact rfl)|(apply OKx_notT;exact rfl)|(apply OKx_notF;exact rfl))
    refine bodyQ_r1 (by ((conv=>lhs;whnf)<;>exact rfl)) ?_
    exact ⟨_, Ent.nil, rfl, rfl⟩
end Go.Proofs.YtbooccpfdekaiaaDoor
namespace Go.Proofs.YtbooccpfdekaiaaDoor
open Go.RowKit
theorem match_ok {p s : List UInt8} (hp : patE p = 0) (hs : chkS s = 0) (lp : p.length ≤ 140737488355328) (ls : s.length ≤ 140737488355328) (w : World) : SatV Tryd.prog 9 [.string (bOf p), .string (bOf s)] w (.tuple #[.bool (mtB (pat p) s), .int .i64 0]) := by
  have h := Match_sat p s w lp ls
  rw [(mtc_ok hp hs).1, (mtc_ok hp hs).2] at h
  exact h
end Go.Proofs.YtbooccpfdekaiaaDoor
namespace Go.Proofs.YtbooccpfdekaiaaDoor
open Go.RowKit
def abcL : List UInt8 := [97, 98, 99, 100, 101, 102, 103, 104, 105, 106, 107, 108, 109, 110, 111, 112, 113, 114, 115, 116, 117, 118, 119, 120, 121, 122]
theorem abc_chr : abcL.all chrB = true := by kernel_rfl
theorem bOf_inj9 {a b : List UInt8} (h : bOf a = bOf b) : a = b := by
  have h2 := congrArg (fun x : ByteArray => x.data.toList) h
  simpa [bOf] using h2
theorem dropW_nil {p : UInt8 → Bool} : ∀ {l : List UInt8}, l.dropWhile p = [] → ∀ x ∈ l, p x = true
  | [], _, x, hx => absurd hx List.not_mem_nil
  | a :: l, h, x, hx => by
    cases hp : p a with
    | false => rw [List.dropWhile_cons, if_neg (by rw [hp]; simp)] at h; cases h
    | true =>
      rw [List.dropWhile_cons, if_pos hp] at h
      rcases List.mem_cons.1 hx with rfl | hx
      · exact hp
      · exact dropW_nil h x hx
theorem dropW_mem {p : UInt8 → Bool} : ∀ {l : List UInt8}, (∀ x ∈ l.dropWhile p, p x = true) → ∀ x ∈ l, p x = true
  | [], _, x, hx => absurd hx List.not_mem_nil
  | a :: l, h, x, hx => by
    cases hp : p a with
    | false => rw [List.dropWhile_cons, if_neg (by rw [hp]; simp)] at h; exact h x hx
    | true =>
      rw [List.dropWhile_cons, if_pos hp] at h
      rcases List.mem_cons.1 hx with rfl | hx
      · exact hp
      · exact dropW_mem h x hx
theorem trim_all {s cs : List UInt8} (h : Lib.trimS s cs = []) : ∀ d ∈ s, d ∈ cs := by
  unfold Lib.trimS Lib.trimLeftS Lib.trimRightS at h
  intro d hd
  have h1 : ∀ x ∈ (s.reverse.dropWhile (cs.contains ·)).reverse, cs.contains x = true := fun x hx => dropW_nil h x hx
  have h2 : ∀ x ∈ s.reverse.dropWhile (cs.contains ·), cs.contains x = true := fun x hx => h1 x (List.mem_reverse.2 hx)
  exact List.contains_iff_mem.1 (dropW_mem h2 d (List.mem_reverse.2 hd))
set_option maxRecDepth 100000 in
set_option maxHeartbeats 4000000 in
theorem trim_sat (s : List UInt8) (w : World) (hs : s.length ≤ 140737488355328) : SatV Tryd.prog 6 [.string (bOf s), .string ⟨#[97, 98, 99, 100, 101, 102, 103, 104, 105, 106, 107, 108, 109, 110, 111, 112, 113, 114, 115, 116, 117, 118, 119, 120, 121, 122]⟩] w (.string (bOf (Lib.trimS s abcL))) :=
  Sat.lib ⟨_, _, Tryd.func6, by kernel_rfl, rfl⟩ fun w1 hb => by
    have h : Calls Tryd.prog 6 #[.string (bOf s), .string ⟨#[97, 98, 99, 100, 101, 102, 103, 104, 105, 106, 107, 108, 109, 110, 111, 112, 113, 114, 115, 116, 117, 118, 119, 120, 121, 122]⟩] w1 fun e w' => e = .returned (.string ⟨(Lib.trimS (bOf s).data.toList abcL).toArray⟩) ∧ Below w1.heap.size w1 w' :=
      Any.strings_Trim_laid Tryd.lays160 (by kernel_rfl) (bOf s) ⟨#[97, 98, 99, 100, 101, 102, 103, 104, 105, 106, 107, 108, 109, 110, 111, 112, 113, 114, 115, 116, 117, 118, 119, 120, 121, 122]⟩ w1 (by rw [bOf_size];omega) (by decide) (ascii_of_all (by kernel_rfl))
    refine h.mono ?_
    rintro e w' ⟨rfl, hbl⟩
    exact ⟨_, [], rfl, ⟨hbl, hbl.size, fun _ h => absurd h List.not_mem_nil, List.Pairwise.nil⟩, by rw [data_bOf] <;> rfl, rfl⟩
section
variable {P : Program} {n : Nat} {w0 : World} {K : Fm → List Res → Prop} {F : Fm} {L : List Res} {m : Md} {ops : Array Oper} {rest : List Oper} {d : Option Nat} {ty : TypeId} {pos : String} {aft : Array Edge}
theorem OKx_slss {t ut : TypeId} {x y : Operand} {a b : List UInt8} (hx : rv n F x = .string (bOf a)) (hy : rv n F y = .string (bOf b))
    (kk : OKx P n w0 m ops K rest (updo F d (.bool (Op.bytesLess (bOf a).toList (bOf b).toList))) L) : OKx P n w0 m ops K (⟨d, .binOp .lss t x y ut, ty, pos, aft, none⟩ :: rest) F L :=
  OKx_still (fun w _ _ _ _ _ => run_str .lss t x y (bOf a) (bOf b) (by decide) w ut _ _ _ _ _ hx hy (by simp [Op.stringOp])) kk
end
def befB (a b : List UInt8) : Bool := if a.length = b.length then Op.bytesLess (bOf a).toList (bOf b).toList else decide (a.length < b.length)
set_option maxRecDepth 100000 in
set_option maxHeartbeats 4000000 in
theorem before_sat (a b : List UInt8) (w : World) : SatV Tryd.prog 10 [.string (bOf a), .string (bOf b)] w (.bool (befB a b)) := by
  have ha : (bOf a).size = a.length := bOf_size a
  have hb : (bOf b).size = b.length := bOf_size b
  unfold befB
  by_cases h : a.length = b.length
  · rw [if_pos h]
    refine SatL.of 18 [4] Tryd.func10 (by kernel_rfl) (by kernel_rfl) rfl rfl rfl rfl ?_
    repeat' (first|(apply OK_seq)|(apply thenQ_n)|(apply OK_region)|(refine OKx_slss (a := a) (b := b) rfl rfl ?_)|(apply OKx_nilK)|(apply OK_block)|(apply blockQ_n)|(apply blockQ_s)|(apply thenQ_e)|(apply blockQ_e;exact rfl)|(apply thenQ_r)|(apply blockQ_r)|(apply OK_condT;exact rfl)|(apply OK_condF;exact rfl)|(apply OK_skip)|(apply OK_exit)|(apply OK_ret)|(apply OKx_move;(conv=>lhs;whnf)<;>exact rfl)|(apply OKx_assign;(conv=>lhs;whnf)<;>exact rfl)|(apply OKx_lenS;exact rfl)|(apply OKx_lss;exact rfl;exact rfl;all_goals (intro _; try (exfalso;omega)))|(apply OKx_neq;exact rfl;exact rfl;all_goals (intro _; try (exfalso;omega))))
    refine bodyQ_r1 (by ((conv=>lhs;whnf)<;>exact rfl)) ?_
    exact ⟨_, Ent.nil, rfl, rfl⟩
  · rw [if_neg h]
    by_cases hl : a.length < b.length
    · rw [decide_eq_true hl]
      refine SatL.of 18 [4] Tryd.func10 (by kernel_rfl) (by kernel_rfl) rfl rfl rfl rfl ?_
      repeat' (first|(apply OK_seq)|(apply thenQ_n)|(apply OK_region)|(apply OKx_nilK)|(apply OK_block)|(apply blockQ_n)|(apply blockQ_s)|(apply thenQ_e)|(apply blockQ_e;exact rfl)|(apply thenQ_r)|(apply blockQ_r)|(apply OK_condT;exact rfl)|(apply OK_condF;exact rfl)|(apply OK_skip)|(apply OK_exit)|(apply OK_ret)|(apply OKx_move;(conv=>lhs;whnf)<;>exact rfl)|(apply OKx_assign;(conv=>lhs;whnf)<;>exact rfl)|(apply OKx_lenS;exact rfl)|(apply OKx_lss;exact rfl;exact rfl;all_goals (intro _; try (exfalso;omega)))|(apply OKx_neq;exact rfl;exact rfl;all_goals (intro _; try (exfalso;omega))))
      refine bodyQ_r1 (by ((conv=>lhs;whnf)<;>exact rfl)) ?_
      exact ⟨_, Ent.nil, rfl, rfl⟩
    · rw [decide_eq_false hl]
      refine SatL.of 18 [4] Tryd.func10 (by kernel_rfl) (by kernel_rfl) rfl rfl rfl rfl ?_
      repeat' (first|(apply OK_seq)|(apply thenQ_n)|(apply OK_region)|(apply OKx_nilK)|(apply OK_block)|(apply blockQ_n)|(apply blockQ_s)|(apply thenQ_e)|(apply blockQ_e;exact rfl)|(apply thenQ_r)|(apply blockQ_r)|(apply OK_condT;exact rfl)|(apply OK_condF;exact rfl)|(apply OK_skip)|(apply OK_exit)|(apply OK_ret)|(apply OKx_move;(conv=>lhs;whnf)<;>exact rfl)|(apply OKx_assign;(conv=>lhs;whnf)<;>exact rfl)|(apply OKx_lenS;exact rfl)|(apply OKx_lss;exact rfl;exact rfl;all_goals (intro _; try (exfalso;omega)))|(apply OKx_neq;exact rfl;exact rfl;all_goals (intro _; try (exfalso;omega))))
      refine bodyQ_r1 (by ((conv=>lhs;whnf)<;>exact rfl)) ?_
      exact ⟨_, Ent.nil, rfl, rfl⟩
theorem less_lex : ∀ {a b : List UInt8}, Op.bytesLess a b = true → lexL a b
  | [], [], h => by simp [Op.bytesLess] at h
  | [], _ :: _, _ => trivial
  | _ :: _, [], h => by simp [Op.bytesLess] at h
  | x :: a, y :: b, h => by
    unfold Op.bytesLess at h
    rw [Bool.or_eq_true, Bool.and_eq_true, decide_eq_true_eq, beq_iff_eq] at h
    rcases h with h | ⟨h1, h2⟩
    · exact .inl (UInt8.lt_iff_toNat_lt.1 h)
    · exact .inr ⟨h1, less_lex h2⟩
theorem bef_lt {a b : List UInt8} (h : befB a b = true) : ltW a b := by
  unfold befB at h
  by_cases hl : a.length = b.length
  · rw [if_pos hl, Lib.toList_data, Lib.toList_data, data_bOf, data_bOf] at h
    exact .inr ⟨hl, less_lex h⟩
  · rw [if_neg hl, decide_eq_true_eq] at h
    exact .inl h
theorem first_len {a b : List Elc} {n : Nat} {v : List UInt8} (h : First a b n v) : (bOf v).size ≤ n := by
  rw [bOf_size]
  exact h.1.2.1
theorem good_chk {v : List UInt8} (h : ∀ d ∈ v, chrB d = true) (hl : v.length ≤ 64) : chkS v = 0 := by
  unfold chkS
  rw [if_neg (by omega), if_neg fun hm => absurd (h _ hm) (by decide)]
theorem first_a {p q : List UInt8} {n : Nat} {v : List UInt8} (ep : patE p = 0) (lp : p.length ≤ 12) (hn : n ≤ 8) (h : First (pat p) (pat q) n v) (w : World) : SatV Tryd.prog 9 [.string (bOf p), .string (bOf v)] w (.tuple #[.bool true, .int .i64 0]) := by
  have := match_ok (s := v) ep (good_chk h.1.1 (by have := h.1.2.1;omega)) (by omega) (by have := h.1.2.1;omega) w
  rwa [h.1.2.2.1] at this
theorem first_b {p q : List UInt8} {n : Nat} {v : List UInt8} (eq : patE q = 0) (lq : q.length ≤ 12) (hn : n ≤ 8) (h : First (pat p) (pat q) n v) (w : World) : SatV Tryd.prog 9 [.string (bOf q), .string (bOf v)] w (.tuple #[.bool true, .int .i64 0]) := by
  have := match_ok (s := v) eq (good_chk h.1.1 (by have := h.1.2.1;omega)) (by omega) (by have := h.1.2.1;omega) w
  rwa [h.1.2.2.2] at this
theorem first_no {a b : List Elc} {n : Nat} {v s : List UInt8} (h : First a b n v) (hs : Good a b n s) (w : World) : SatV Tryd.prog 10 [.string (bOf s), .string (bOf v)] w (.bool false) := by
  have hb := before_sat s v w
  cases hc : befB s v with
  | true => exact absurd (bef_lt hc) (h.2 s hs)
  | false => rwa [hc] at hb
set_option maxRecDepth 100000 in
set_option maxHeartbeats 4000000 in
theorem GlobShared_sat (p q s : List UInt8) (m : Nat) (w : World) (hp : p.length ≤ 140737488355328) (hq : q.length ≤ 140737488355328) (hs : s.length ≤ 140737488355328) (hm : m ≤ 255) :
    SatV Tryd.prog 3 [.string (bOf p), .string (bOf q), .string (bOf s), .int .u8 (m : Int)] w (.bool true) := by
  have hz : (bOf s).size = s.length := bOf_size s
  have cT := fun w1 => trim_sat s w1 hs
  obtain ⟨N, hN⟩ : ∃ N, N = m % 6 := ⟨_, rfl⟩
  have hN5 : N ≤ 5 := by omega
  have cA := fun w1 => fine_sat p w1 hp
  have cB := fun w1 => fine_sat q w1 hq
  have cC := fun w1 => plain07_sat s w1
  cases hA : fineB p with
  | false =>
    rw [hA] at cA
    refine SatL.of 129 [8] Tryd.func3 (by kernel_rfl) (by kernel_rfl) rfl rfl rfl rfl ?_
    repeat' (first|(apply OK_seq)|(apply thenQ_n)|(apply OK_region)|(apply OKx_gc 4;exact rfl; refine OKx_callV (f := 4) rfl rfl rfl (fun w1 hp => cA w1) ?_)|(apply OKx_gc 7;exact rfl; refine OKx_callV (f := 7) rfl rfl rfl (fun w1 hp => awake07_sat w1) ?_)|(apply OKx_nilK)|(apply OK_block)|(apply blockQ_n)|(apply blockQ_s)|(apply thenQ_e)|(apply blockQ_e;exact rfl)|(apply thenQ_r)|(apply blockQ_r)|(apply OK_condT;exact rfl)|(apply OK_condF;exact rfl)|(apply OK_skip)|(apply OK_exit)|(apply OK_ret)|(apply OKx_move;(conv=>lhs;whnf)<;>exact rfl)|(apply OKx_assign;(conv=>lhs;whnf)<;>exact rfl)|(apply OKx_lenS;exact rfl)|(apply OKx_leq;exact rfl;exact rfl;all_goals (intro _; try (exfalso;omega)))|(apply OKx_eql;exact rfl;exact rfl;all_goals (intro _; try (exfalso;omega)))|(apply OKx_neq;exact rfl;exact rfl;all_goals (intro _; try (exfalso;omega)))|(apply OKx_sneq;exact rfl;exact rfl; all_goals intro _)|(apply OKx_max;exact rfl;exact rfl)|(apply OKx_pickT;exact rfl;(conv=>lhs;whnf)<;>exact rfl)|(apply OKx_pickF;exact rfl;(conv=>lhs;whnf)<;>exact rfl)|(apply OKx_guardT;exact rfl;exact rfl)|(apply OKx_guardF;exact rfl;exact rfl)|(apply OKx_guardU;exact rfl;exact rfl)|(apply OKx_notT;exact rfl)|(apply OKx_notF;exact rfl)|(apply OKx_extract;exact rfl;(conv=>lhs;whnf)<;>exact rfl))
    refine bodyQ_r1 (by ((conv=>lhs;whnf)<;>exact rfl)) ?_
    exact ⟨_, Ent.nil, rfl, rfl⟩
  | true =>
    rw [hA] at cA
    cases hB : fineB q with
    | false =>
      rw [hB] at cB
      refine SatL.of 129 [8] Tryd.func3 (by kernel_rfl) (by kernel_rfl) rfl rfl rfl rfl ?_
      repeat' (first|(apply OK_seq)|(apply thenQ_n)|(apply OK_region)|(apply OKx_gc 4;exact rfl; refine OKx_callV (f := 4) rfl rfl rfl (fun w1 hp => cA w1) ?_)|(apply OKx_gc 4;exact rfl; refine OKx_callV (f := 4) rfl rfl rfl (fun w1 hp => cB w1) ?_)|(apply OKx_gc 7;exact rfl; refine OKx_callV (f := 7) rfl rfl rfl (fun w1 hp => awake07_sat w1) ?_)|(apply OKx_nilK)|(apply OK_block)|(apply blockQ_n)|(apply blockQ_s)|(apply thenQ_e)|(apply blockQ_e;exact rfl)|(apply thenQ_r)|(apply blockQ_r)|(apply OK_condT;exact rfl)|(apply OK_condF;exact rfl)|(apply OK_skip)|(apply OK_exit)|(apply OK_ret)|(apply OKx_move;(conv=>lhs;whnf)<;>exact rfl)|(apply OKx_assign;(conv=>lhs;whnf)<;>exact rfl)|(apply OKx_lenS;exact rfl)|(apply OKx_leq;exact rfl;exact rfl;all_goals (intro _; try (exfalso;omega)))|(apply OKx_eql;exact rfl;exact rfl;all_goals (intro _; try (exfalso;omega)))|(apply OKx_neq;exact rfl;exact rfl;all_goals (intro _; try (exfalso;omega)))|(apply OKx_sneq;exact rfl;exact rfl; all_goals intro _)|(apply OKx_max;exact rfl;exact rfl)|(apply OKx_pickT;exact rfl;(conv=>lhs;whnf)<;>exact rfl)|(apply OKx_pickF;exact rfl;(conv=>lhs;whnf)<;>exact rfl)|(apply OKx_guardT;exact rfl;exact rfl)|(apply OKx_guardF;exact rfl;exact rfl)|(apply OKx_guardU;exact rfl;exact rfl)|(apply OKx_notT;exact rfl)|(apply OKx_notF;exact rfl)|(apply OKx_extract;exact rfl;(conv=>lhs;whnf)<;>exact rfl))
      refine bodyQ_r1 (by ((conv=>lhs;whnf)<;>exact rfl)) ?_
      exact ⟨_, Ent.nil, rfl, rfl⟩
    | true =>
      rw [hB] at cB
      cases hC : plnB s with
      | false =>
        rw [hC] at cC
        refine SatL.of 129 [8] Tryd.func3 (by kernel_rfl) (by kernel_rfl) rfl rfl rfl rfl ?_
        repeat' (first|(apply OK_seq)|(apply thenQ_n)|(apply OK_region)|(apply OKx_gc 4;exact rfl; refine OKx_callV (f := 4) rfl rfl rfl (fun w1 hp => cA w1) ?_)|(apply OKx_gc 4;exact rfl; refine OKx_callV (f := 4) rfl rfl rfl (fun w1 hp => cB w1) ?_)|(apply OKx_gc 5;exact rfl; refine OKx_callV (f := 5) rfl rfl rfl (fun w1 hp => cC w1) ?_)|(apply OKx_gc 7;exact rfl; refine OKx_callV (f := 7) rfl rfl rfl (fun w1 hp => awake07_sat w1) ?_)|(apply OKx_nilK)|(apply OK_block)|(apply blockQ_n)|(apply blockQ_s)|(apply thenQ_e)|(apply blockQ_e;exact rfl)|(apply thenQ_r)|(apply blockQ_r)|(apply OK_condT;exact rfl)|(apply OK_condF;exact rfl)|(apply OK_skip)|(apply OK_exit)|(apply OK_ret)|(apply OKx_move;(conv=>lhs;whnf)<;>exact rfl)|(apply OKx_assign;(conv=>lhs;whnf)<;>exact rfl)|(apply OKx_lenS;exact rfl)|(apply OKx_leq;exact rfl;exact rfl;all_goals (intro _; try (exfalso;omega)))|(apply OKx_eql;exact rfl;exact rfl;all_goals (intro _; try (exfalso;omega)))|(apply OKx_neq;exact rfl;exact rfl;all_goals (intro _; try (exfalso;omega)))|(apply OKx_sneq;exact rfl;exact rfl; all_goals intro _)|(apply OKx_max;exact rfl;exact rfl)|(apply OKx_pickT;exact rfl;(conv=>lhs;whnf)<;>exact rfl)|(apply OKx_pickF;exact rfl;(conv=>lhs;whnf)<;>exact rfl)|(apply OKx_guardT;exact rfl;exact rfl)|(apply OKx_guardF;exact rfl;exact rfl)|(apply OKx_guardU;exact rfl;exact rfl)|(apply OKx_notT;exact rfl)|(apply OKx_notF;exact rfl)|(apply OKx_extract;exact rfl;(conv=>lhs;whnf)<;>exact rfl))
        refine bodyQ_r1 (by ((conv=>lhs;whnf)<;>exact rfl)) ?_
        exact ⟨_, Ent.nil, rfl, rfl⟩
      | true =>
        rw [hC] at cC
        obtain ⟨lp, ep, _⟩ := fine_of hA
        obtain ⟨lq, eq, _⟩ := fine_of hB
        obtain ⟨ls, es⟩ := pln_of hC
        have m1 := fun w1 => match_ok ep es (by omega) (by omega) w1
        have m2 := fun w1 => match_ok eq es (by omega) (by omega) w1
        by_cases hT : Lib.trimS s abcL = []
        rotate_left
        · have hTn : Lib.trimS s abcL ≠ [] := hT
          refine SatL.of 129 [8] Tryd.func3 (by kernel_rfl) (by kernel_rfl) rfl rfl rfl rfl ?_
          repeat' (first|(apply OK_seq)|(apply thenQ_n)|(apply OK_region)|(apply OKx_gc 4;exact rfl; refine OKx_callV (f := 4) rfl rfl rfl (fun w1 hp => cA w1) ?_)|(apply OKx_gc 4;exact rfl; refine OKx_callV (f := 4) rfl rfl rfl (fun w1 hp => cB w1) ?_)|(apply OKx_gc 5;exact rfl; refine OKx_callV (f := 5) rfl rfl rfl (fun w1 hp => cC w1) ?_)|(apply OKx_gc 7;exact rfl; refine OKx_callV (f := 7) rfl rfl rfl (fun w1 hp => awake07_sat w1) ?_)|(apply OKx_gc 6;exact rfl; refine OKx_callV (f := 6) rfl rfl rfl (fun w1 hp => cT w1) ?_)|(apply OKx_gn; apply OKx_sneq;exact rfl;exact rfl; all_goals (intro hs9; first | (exfalso; exact hs9 rfl) | (exfalso; exact hTn (bOf_inj9 hs9)) | skip))|(apply OKx_gv; refine OKx_conv rfl rfl Tryd.underlying3 (by omega) (by omega) ?_)|(apply OKx_gn; refine OKx_remN (a := m) (b := 6) rfl rfl (by omega) (by omega) ?_; rw [← hN])|(apply OKx_gc 8;exact rfl; refine OKx_call (f := 8) rfl rfl (fun w1 hp => Common_sat p q N w1 ep eq lp lq (by omega)) ?_; rintro _ _ ⟨rfl, ⟨v, rfl, hF⟩ | ⟨rfl, hNo⟩⟩ <;> first | (exfalso; exact hNo _ hgood) | (rw [List.nil_append]; have hzv := first_len hF) | rw [List.nil_append])|(apply OKx_gc 9;exact rfl; refine OKx_callV (f := 9) rfl rfl rfl (fun w1 hp => m1 w1) ?_)|(apply OKx_gc 9;exact rfl; refine OKx_callV (f := 9) rfl rfl rfl (fun w1 hp => m2 w1) ?_)|(apply OKx_gc 9;exact rfl; refine OKx_callV (f := 9) rfl rfl rfl (fun w1 hp => first_a ep lp (by omega) hF w1) ?_)|(apply OKx_gc 9;exact rfl; refine OKx_callV (f := 9) rfl rfl rfl (fun w1 hp => first_b eq lq (by omega) hF w1) ?_)|(apply OKx_gc 10;exact rfl; refine OKx_callV (f := 10) rfl rfl rfl (fun w1 hp => first_no hF hgood w1) ?_)|(apply OKx_gb; refine OKx_max3 (r := 0) rfl rfl rfl (by decide) ?_)|(apply OKx_nilK)|(apply OK_block)|(apply blockQ_n)|(apply blockQ_s)|(apply thenQ_e)|(apply blockQ_e;exact rfl)|(apply thenQ_r)|(apply blockQ_r)|(apply OK_condT;exact rfl)|(apply OK_condF;exact rfl)|(apply OK_skip)|(apply OK_exit)|(apply OK_ret)|(apply OKx_move;(conv=>lhs;whnf)<;>exact rfl)|(apply OKx_assign;(conv=>lhs;whnf)<;>exact rfl)|(apply OKx_lenS;exact rfl)|(apply OKx_leq;exact rfl;exact rfl;all_goals (intro _; try (exfalso;omega)))|(apply OKx_eql;exact rfl;exact rfl;all_goals (intro _; try (exfalso;omega)))|(apply OKx_neq;exact rfl;exact rfl;all_goals (intro _; try (exfalso;omega)))|(apply OKx_sneq;exact rfl;exact rfl; all_goals intro _)|(apply OKx_max;exact rfl;exact rfl)|(apply OKx_pickT;exact rfl;(conv=>lhs;whnf)<;>exact rfl)|(apply OKx_pickF;exact rfl;(conv=>lhs;whnf)<;>exact rfl)|(apply OKx_guardT;exact rfl;exact rfl)|(apply OKx_guardF;exact rfl;exact rfl)|(apply OKx_guardU;exact rfl;exact rfl)|(apply OKx_notT;exact rfl)|(apply OKx_notF;exact rfl)|(apply OKx_extract;exact rfl;(conv=>lhs;whnf)<;>exact rfl))
          all_goals
            refine bodyQ_r1 (by ((conv=>lhs;whnf)<;>exact rfl)) ?_
            exact ⟨_, Ent.nil, rfl, rfl⟩
        have hch : ∀ d ∈ s, chrB d = true := fun d hd => List.all_eq_true.1 abc_chr d (trim_all hT d hd)
        rw [hT] at cT
        cases hx : mtB (pat p) s with
        | false =>
          rw [hx] at m1
          refine SatL.of 129 [8] Tryd.func3 (by kernel_rfl) (by kernel_rfl) rfl rfl rfl rfl ?_
          repeat' (first|(apply OK_seq)|(apply thenQ_n)|(apply OK_region)|(apply OKx_gc 4;exact rfl; refine OKx_callV (f := 4) rfl rfl rfl (fun w1 hp => cA w1) ?_)|(apply OKx_gc 4;exact rfl; refine OKx_callV (f := 4) rfl rfl rfl (fun w1 hp => cB w1) ?_)|(apply OKx_gc 5;exact rfl; refine OKx_callV (f := 5) rfl rfl rfl (fun w1 hp => cC w1) ?_)|(apply OKx_gc 7;exact rfl; refine OKx_callV (f := 7) rfl rfl rfl (fun w1 hp => awake07_sat w1) ?_)|(apply OKx_gc 6;exact rfl; refine OKx_callV (f := 6) rfl rfl rfl (fun w1 hp => cT w1) ?_)|(apply OKx_gn; apply OKx_sneq;exact rfl;exact rfl; all_goals (intro hs9; first | (exfalso; exact hs9 rfl) | (exfalso; exact hTn (bOf_inj9 hs9)) | skip))|(apply OKx_gv; refine OKx_conv rfl rfl Tryd.underlying3 (by omega) (by omega) ?_)|(apply OKx_gn; refine OKx_remN (a := m) (b := 6) rfl rfl (by omega) (by omega) ?_; rw [← hN])|(apply OKx_gc 8;exact rfl; refine OKx_call (f := 8) rfl rfl (fun w1 hp => Common_sat p q N w1 ep eq lp lq (by omega)) ?_; rintro _ _ ⟨rfl, ⟨v, rfl, hF⟩ | ⟨rfl, hNo⟩⟩ <;> first | (exfalso; exact hNo _ hgood) | (rw [List.nil_append]; have hzv := first_len hF) | rw [List.nil_append])|(apply OKx_gc 9;exact rfl; refine OKx_callV (f := 9) rfl rfl rfl (fun w1 hp => m1 w1) ?_)|(apply OKx_gc 9;exact rfl; refine OKx_callV (f := 9) rfl rfl rfl (fun w1 hp => m2 w1) ?_)|(apply OKx_gc 9;exact rfl; refine OKx_callV (f := 9) rfl rfl rfl (fun w1 hp => first_a ep lp (by omega) hF w1) ?_)|(apply OKx_gc 9;exact rfl; refine OKx_callV (f := 9) rfl rfl rfl (fun w1 hp => first_b eq lq (by omega) hF w1) ?_)|(apply OKx_gc 10;exact rfl; refine OKx_callV (f := 10) rfl rfl rfl (fun w1 hp => first_no hF hgood w1) ?_)|(apply OKx_gb; refine OKx_max3 (r := 0) rfl rfl rfl (by decide) ?_)|(apply OKx_nilK)|(apply OK_block)|(apply blockQ_n)|(apply blockQ_s)|(apply thenQ_e)|(apply blockQ_e;exact rfl)|(apply thenQ_r)|(apply blockQ_r)|(apply OK_condT;exact rfl)|(apply OK_condF;exact rfl)|(apply OK_skip)|(apply OK_exit)|(apply OK_ret)|(apply OKx_move;(conv=>lhs;whnf)<;>exact rfl)|(apply OKx_assign;(conv=>lhs;whnf)<;>exact rfl)|(apply OKx_lenS;exact rfl)|(apply OKx_leq;exact rfl;exact rfl;all_goals (intro _; try (exfalso;omega)))|(apply OKx_eql;exact rfl;exact rfl;all_goals (intro _; try (exfalso;omega)))|(apply OKx_neq;exact rfl;exact rfl;all_goals (intro _; try (exfalso;omega)))|(apply OKx_sneq;exact rfl;exact rfl; all_goals intro _)|(apply OKx_max;exact rfl;exact rfl)|(apply OKx_pickT;exact rfl;(conv=>lhs;whnf)<;>exact rfl)|(apply OKx_pickF;exact rfl;(conv=>lhs;whnf)<;>exact rfl)|(apply OKx_guardT;exact rfl;exact rfl)|(apply OKx_guardF;exact rfl;exact rfl)|(apply OKx_guardU;exact rfl;exact rfl)|(apply OKx_notT;exact rfl)|(apply OKx_notF;exact rfl)|(apply OKx_extract;exact rfl;(conv=>lhs;whnf)<;>exact rfl))
          all_goals
            refine bodyQ_r1 (by ((conv=>lhs;whnf)<;>exact rfl)) ?_
            exact ⟨_, Ent.nil, rfl, rfl⟩
        | true =>
          rw [hx] at m1
          cases hy : mtB (pat q) s with
          | false =>
            rw [hy] at m2
            refine SatL.of 129 [8] Tryd.func3 (by kernel_rfl) (by kernel_rfl) rfl rfl rfl rfl ?_
            repeat' (first|(apply OK_seq)|(apply thenQ_n)|(apply OK_region)|(apply OKx_gc 4;exact rfl; refine OKx_callV (f := 4) rfl rfl rfl (fun w1 hp => cA w1) ?_)|(apply OKx_gc 4;exact rfl; refine OKx_callV (f := 4) rfl rfl rfl (fun w1 hp => cB w1) ?_)|(apply OKx_gc 5;exact rfl; refine OKx_callV (f := 5) rfl rfl rfl (fun w1 hp => cC w1) ?_)|(apply OKx_gc 7;exact rfl; refine OKx_callV (f := 7) rfl rfl rfl (fun w1 hp => awake07_sat w1) ?_)|(apply OKx_gc 6;exact rfl; refine OKx_callV (f := 6) rfl rfl rfl (fun w1 hp => cT w1) ?_)|(apply OKx_gn; apply OKx_sneq;exact rfl;exact rfl; all_goals (intro hs9; first | (exfalso; exact hs9 rfl) | (exfalso; exact hTn (bOf_inj9 hs9)) | skip))|(apply OKx_gv; refine OKx_conv rfl rfl Tryd.underlying3 (by omega) (by omega) ?_)|(apply OKx_gn; refine OKx_remN (a := m) (b := 6) rfl rfl (by omega) (by omega) ?_; rw [← hN])|(apply OKx_gc 8;exact rfl; refine OKx_call (f := 8) rfl rfl (fun w1 hp => Common_sat p q N w1 ep eq lp lq (by omega)) ?_; rintro _ _ ⟨rfl, ⟨v, rfl, hF⟩ | ⟨rfl, hNo⟩⟩ <;> first | (exfalso; exact hNo _ hgood) | (rw [List.nil_append]; have hzv := first_len hF) | rw [List.nil_append])|(apply OKx_gc 9;exact rfl; refine OKx_callV (f := 9) rfl rfl rfl (fun w1 hp => m1 w1) ?_)|(apply OKx_gc 9;exact rfl; refine OKx_callV (f := 9) rfl rfl rfl (fun w1 hp => m2 w1) ?_)|(apply OKx_gc 9;exact rfl; refine OKx_callV (f := 9) rfl rfl rfl (fun w1 hp => first_a ep lp (by omega) hF w1) ?_)|(apply OKx_gc 9;exact rfl; refine OKx_callV (f := 9) rfl rfl rfl (fun w1 hp => first_b eq lq (by omega) hF w1) ?_)|(apply OKx_gc 10;exact rfl; refine OKx_callV (f := 10) rfl rfl rfl (fun w1 hp => first_no hF hgood w1) ?_)|(apply OKx_gb; refine OKx_max3 (r := 0) rfl rfl rfl (by decide) ?_)|(apply OKx_nilK)|(apply OK_block)|(apply blockQ_n)|(apply blockQ_s)|(apply thenQ_e)|(apply blockQ_e;exact rfl)|(apply thenQ_r)|(apply blockQ_r)|(apply OK_condT;exact rfl)|(apply OK_condF;exact rfl)|(apply OK_skip)|(apply OK_exit)|(apply OK_ret)|(apply OKx_move;(conv=>lhs;whnf)<;>exact rfl)|(apply OKx_assign;(conv=>lhs;whnf)<;>exact rfl)|(apply OKx_lenS;exact rfl)|(apply OKx_leq;exact rfl;exact rfl;all_goals (intro _; try (exfalso;omega)))|(apply OKx_eql;exact rfl;exact rfl;all_goals (intro _; try (exfalso;omega)))|(apply OKx_neq;exact rfl;exact rfl;all_goals (intro _; try (exfalso;omega)))|(apply OKx_sneq;exact rfl;exact rfl; all_goals intro _)|(apply OKx_max;exact rfl;exact rfl)|(apply OKx_pickT;exact rfl;(conv=>lhs;whnf)<;>exact rfl)|(apply OKx_pickF;exact rfl;(conv=>lhs;whnf)<;>exact rfl)|(apply OKx_guardT;exact rfl;exact rfl)|(apply OKx_guardF;exact rfl;exact rfl)|(apply OKx_guardU;exact rfl;exact rfl)|(apply OKx_notT;exact rfl)|(apply OKx_notF;exact rfl)|(apply OKx_extract;exact rfl;(conv=>lhs;whnf)<;>exact rfl))
            all_goals
              refine bodyQ_r1 (by ((conv=>lhs;whnf)<;>exact rfl)) ?_
              exact ⟨_, Ent.nil, rfl, rfl⟩
          | true =>
            rw [hy] at m2
            by_cases hl : s.length ≤ N
            · have hgood : Good (pat p) (pat q) N s := ⟨hch, hl, hx, hy⟩
              refine SatL.of 129 [8] Tryd.func3 (by kernel_rfl) (by kernel_rfl) rfl rfl rfl rfl ?_
              repeat' (first|(apply OK_seq)|(apply thenQ_n)|(apply OK_region)|(apply OKx_gc 4;exact rfl; refine OKx_callV (f := 4) rfl rfl rfl (fun w1 hp => cA w1) ?_)|(apply OKx_gc 4;exact rfl; refine OKx_callV (f := 4) rfl rfl rfl (fun w1 hp => cB w1) ?_)|(apply OKx_gc 5;exact rfl; refine OKx_callV (f := 5) rfl rfl rfl (fun w1 hp => cC w1) ?_)|(apply OKx_gc 7;exact rfl; refine OKx_callV (f := 7) rfl rfl rfl (fun w1 hp => awake07_sat w1) ?_)|(apply OKx_gc 6;exact rfl; refine OKx_callV (f := 6) rfl rfl rfl (fun w1 hp => cT w1) ?_)|(apply OKx_gn; apply OKx_sneq;exact rfl;exact rfl; all_goals (intro hs9; first | (exfalso; exact hs9 rfl) | (exfalso; exact hTn (bOf_inj9 hs9)) | skip))|(apply OKx_gv; refine OKx_conv rfl rfl Tryd.underlying3 (by omega) (by omega) ?_)|(apply OKx_gn; refine OKx_remN (a := m) (b := 6) rfl rfl (by omega) (by omega) ?_; rw [← hN])|(apply OKx_gc 8;exact rfl; refine OKx_call (f := 8) rfl rfl (fun w1 hp => Common_sat p q N w1 ep eq lp lq (by omega)) ?_; rintro _ _ ⟨rfl, ⟨v, rfl, hF⟩ | ⟨rfl, hNo⟩⟩ <;> first | (exfalso; exact hNo _ hgood) | (rw [List.nil_append]; have hzv := first_len hF) | rw [List.nil_append])|(apply OKx_gc 9;exact rfl; refine OKx_callV (f := 9) rfl rfl rfl (fun w1 hp => m1 w1) ?_)|(apply OKx_gc 9;exact rfl; refine OKx_callV (f := 9) rfl rfl rfl (fun w1 hp => m2 w1) ?_)|(apply OKx_gc 9;exact rfl; refine OKx_callV (f := 9) rfl rfl rfl (fun w1 hp => first_a ep lp (by omega) hF w1) ?_)|(apply OKx_gc 9;exact rfl; refine OKx_callV (f := 9) rfl rfl rfl (fun w1 hp => first_b eq lq (by omega) hF w1) ?_)|(apply OKx_gc 10;exact rfl; refine OKx_callV (f := 10) rfl rfl rfl (fun w1 hp => first_no hF hgood w1) ?_)|(apply OKx_gb; refine OKx_max3 (r := 0) rfl rfl rfl (by decide) ?_)|(apply OKx_nilK)|(apply OK_block)|(apply blockQ_n)|(apply blockQ_s)|(apply thenQ_e)|(apply blockQ_e;exact rfl)|(apply thenQ_r)|(apply blockQ_r)|(apply OK_condT;exact rfl)|(apply OK_condF;exact rfl)|(apply OK_skip)|(apply OK_exit)|(apply OK_ret)|(apply OKx_move;(conv=>lhs;whnf)<;>exact rfl)|(apply OKx_assign;(conv=>lhs;whnf)<;>exact rfl)|(apply OKx_lenS;exact rfl)|(apply OKx_leq;exact rfl;exact rfl;all_goals (intro _; try (exfalso;omega)))|(apply OKx_eql;exact rfl;exact rfl;all_goals (intro _; try (exfalso;omega)))|(apply OKx_neq;exact rfl;exact rfl;all_goals (intro _; try (exfalso;omega)))|(apply OKx_sneq;exact rfl;exact rfl; all_goals intro _)|(apply OKx_max;exact rfl;exact rfl)|(apply OKx_pickT;exact rfl;(conv=>lhs;whnf)<;>exact rfl)|(apply OKx_pickF;exact rfl;(conv=>lhs;whnf)<;>exact rfl)|(apply OKx_guardT;exact rfl;exact rfl)|(apply OKx_guardF;exact rfl;exact rfl)|(apply OKx_guardU;exact rfl;exact rfl)|(apply OKx_notT;exact rfl)|(apply OKx_notF;exact rfl)|(apply OKx_extract;exact rfl;(conv=>lhs;whnf)<;>exact rfl))
              all_goals
                refine bodyQ_r1 (by ((conv=>lhs;whnf)<;>exact rfl)) ?_
                exact ⟨_, Ent.nil, rfl, rfl⟩
            · skip
              refine SatL.of 129 [8] Tryd.func3 (by kernel_rfl) (by kernel_rfl) rfl rfl rfl rfl ?_
              repeat' (first|(apply OK_seq)|(apply thenQ_n)|(apply OK_region)|(apply OKx_gc 4;exact rfl; refine OKx_callV (f := 4) rfl rfl rfl (fun w1 hp => cA w1) ?_)|(apply OKx_gc 4;exact rfl; refine OKx_callV (f := 4) rfl rfl rfl (fun w1 hp => cB w1) ?_)|(apply OKx_gc 5;exact rfl; refine OKx_callV (f := 5) rfl rfl rfl (fun w1 hp => cC w1) ?_)|(apply OKx_gc 7;exact rfl; refine OKx_callV (f := 7) rfl rfl rfl (fun w1 hp => awake07_sat w1) ?_)|(apply OKx_gc 6;exact rfl; refine OKx_callV (f := 6) rfl rfl rfl (fun w1 hp => cT w1) ?_)|(apply OKx_gn; apply OKx_sneq;exact rfl;exact rfl; all_goals (intro hs9; first | (exfalso; exact hs9 rfl) | (exfalso; exact hTn (bOf_inj9 hs9)) | skip))|(apply OKx_gv; refine OKx_conv rfl rfl Tryd.underlying3 (by omega) (by omega) ?_)|(apply OKx_gn; refine OKx_remN (a := m) (b := 6) rfl rfl (by omega) (by omega) ?_; rw [← hN])|(apply OKx_gc 8;exact rfl; refine OKx_call (f := 8) rfl rfl (fun w1 hp => Common_sat p q N w1 ep eq lp lq (by omega)) ?_; rintro _ _ ⟨rfl, ⟨v, rfl, hF⟩ | ⟨rfl, hNo⟩⟩ <;> first | (exfalso; exact hNo _ hgood) | (rw [List.nil_append]; have hzv := first_len hF) | rw [List.nil_append])|(apply OKx_gc 9;exact rfl; refine OKx_callV (f := 9) rfl rfl rfl (fun w1 hp => m1 w1) ?_)|(apply OKx_gc 9;exact rfl; refine OKx_callV (f := 9) rfl rfl rfl (fun w1 hp => m2 w1) ?_)|(apply OKx_gc 9;exact rfl; refine OKx_callV (f := 9) rfl rfl rfl (fun w1 hp => first_a ep lp (by omega) hF w1) ?_)|(apply OKx_gc 9;exact rfl; refine OKx_callV (f := 9) rfl rfl rfl (fun w1 hp => first_b eq lq (by omega) hF w1) ?_)|(apply OKx_gc 10;exact rfl; refine OKx_callV (f := 10) rfl rfl rfl (fun w1 hp => first_no hF hgood w1) ?_)|(apply OKx_gb; refine OKx_max3 (r := 0) rfl rfl rfl (by decide) ?_)|(apply OKx_nilK)|(apply OK_block)|(apply blockQ_n)|(apply blockQ_s)|(apply thenQ_e)|(apply blockQ_e;exact rfl)|(apply thenQ_r)|(apply blockQ_r)|(apply OK_condT;exact rfl)|(apply OK_condF;exact rfl)|(apply OK_skip)|(apply OK_exit)|(apply OK_ret)|(apply OKx_move;(conv=>lhs;whnf)<;>exact rfl)|(apply OKx_assign;(conv=>lhs;whnf)<;>exact rfl)|(apply OKx_lenS;exact rfl)|(apply OKx_leq;exact rfl;exact rfl;all_goals (intro _; try (exfalso;omega)))|(apply OKx_eql;exact rfl;exact rfl;all_goals (intro _; try (exfalso;omega)))|(apply OKx_neq;exact rfl;exact rfl;all_goals (intro _; try (exfalso;omega)))|(apply OKx_sneq;exact rfl;exact rfl; all_goals intro _)|(apply OKx_max;exact rfl;exact rfl)|(apply OKx_pickT;exact rfl;(conv=>lhs;whnf)<;>exact rfl)|(apply OKx_pickF;exact rfl;(conv=>lhs;whnf)<;>exact rfl)|(apply OKx_guardT;exact rfl;exact rfl)|(apply OKx_guardF;exact rfl;exact rfl)|(apply OKx_guardU;exact rfl;exact rfl)|(apply OKx_notT;exact rfl)|(apply OKx_notF;exact rfl)|(apply OKx_extract;exact rfl;(conv=>lhs;whnf)<;>exact rfl))
              all_goals
                refine bodyQ_r1 (by ((conv=>lhs;whnf)<;>exact rfl)) ?_
                exact ⟨_, Ent.nil, rfl, rfl⟩
theorem GlobShared_at (p q s : ByteArray) (m : Nat) (w : World) (hp : p.size ≤ 140737488355328) (hq : q.size ≤ 140737488355328) (hs : s.size ≤ 140737488355328) (hm : m ≤ 255) (_hx : MxL w) :
    SatV Tryd.prog 3 [.string p, .string q, .string s, .int .u8 (m : Int)] w (.bool true) := by
  obtain ⟨p, rfl⟩ : ∃ l, p = bOf l := ⟨p.data.toList, (bOf_data p).symm⟩
  rw [bOf_size] at hp
  obtain ⟨q, rfl⟩ : ∃ l, q = bOf l := ⟨q.data.toList, (bOf_data q).symm⟩
  rw [bOf_size] at hq
  obtain ⟨s, rfl⟩ : ∃ l, s = bOf l := ⟨s.data.toList, (bOf_data s).symm⟩
  rw [bOf_size] at hs
  exact GlobShared_sat p q s m w hp hq hs hm
end Go.Proofs.YtbooccpfdekaiaaDoor
