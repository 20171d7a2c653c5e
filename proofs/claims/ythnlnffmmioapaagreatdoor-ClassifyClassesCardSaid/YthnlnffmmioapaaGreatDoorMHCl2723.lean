/-
  Part 23 of the proof: Fn27, Pr07, Fr07, Sl07. No statement of the seat is proved here.
-/
import Derived.Test.YthnlnffmmioapaaGreatDoorMHCl2722
namespace Go.Proofs.YthnlnffmmioapaaGreatDoor
open Go.RowKit
section
variable {B : Nat} {w0 w : World} {L : List Res}
theorem Hp.sl2 (h : Hp B w0 w L) (i : Nat) {e : TypeId} {sz g n cap : Nat} {xs : List Value} (hi : L[i]? = some (.row e sz (.slice (some ⟨g, 0, .none⟩) n cap) n xs)) (hn : n ≤ 140737488355328) (hl : xs.length = n * sz) :
    Sl2 w (.slice (some ⟨g, 0, .none⟩) n cap) sz n (fun j c => xs.getD (j * sz + c) undef) := by
  refine ⟨hn, _, _, rfl, .inr ⟨g, 0, rfl, fun j hj c hc => ?_⟩⟩
  have hk : j * sz + c < n * sz := by
    have : (j + 1) * sz ≤ n * sz := Nat.mul_le_mul_right _ (by omega)
    rw [Nat.succ_mul] at this
    omega
  rw [Nat.zero_add, (h.rowAt i hi).1 _ hk]
  show xs[j * sz + c]? = some (xs.getD (j * sz + c) undef)
  rw [List.getD_eq_getElem?_getD, List.getElem?_eq_getElem (by omega)]
  rfl
end
set_option maxRecDepth 100000 in
set_option maxHeartbeats 4000000 in
theorem rd27_sat (a : Option Addr) (k c : Nat) (w : World) : Sat Tryz.prog 27 [.slice a k c] w (fun u L => ∃ g, u = .agg #[.slice a k c, .slice (some ⟨g, 0, none⟩) 1 1] ∧ L = [.row 3 1 (.slice (some ⟨g, 0, none⟩) 1 1) 1 [.int .i64 0]]) := by
  refine SatL.ofC 6 2 33 2 Tryz.func27 (by kernel_rfl) (by kernel_rfl) rfl rfl rfl ?_
  repeat' (first|(apply OK_seq)|(apply thenQ_n)|(apply OK_region)|(apply OKx_nilK)|(apply OK_ret)|(apply OKx_move;(conv=>lhs;whnf)<;>exact rfl)|(apply OKx_allocA;intro _)|(apply OKx_slit1;(conv=>lhs;whnf)<;>exact rfl;exact rfl;intro _)|(apply OKx_build2;(conv=>lhs;whnf)<;>exact rfl;(conv=>lhs;whnf)<;>exact rfl;exact rfl;exact rfl)|(apply OKx_stBA; kernel_rfl;exact rfl;exact rfl;exact rfl; (apply atP;constructor);exact rfl;exact rfl;exact rfl))
  (apply bodyC_r;exact rfl; (apply atP;constructor);exact rfl)
  · exact ⟨_, Ent.pick [0] rfl, _, rfl, rfl⟩
  · exact rfl
theorem exp_leaf (w : World) (k n : Int) : Exp w (.mk k n ⟨#[]⟩ []) (.agg #[.int .i64 k, .int .i64 n, .string ⟨#[]⟩, .slice none 0 0]) := by
  unfold Exp
  refine ⟨_, fun _ _ => undef, rfl, by decide, ⟨by decide, none, 0, rfl, .inl rfl⟩, ?_⟩
  unfold Exps
  trivial
theorem exp_build1 (k : Int) : Instr.fill ([(0, 1), (1, 1), (2, 1), (3, 1)].toArray[·]?) #[.int .i64 0, .int .i64 0, .string ⟨#[]⟩, .slice none 0 0] [(0, .int .i64 k)] = some #[.int .i64 k, .int .i64 0, .string ⟨#[]⟩, .slice none 0 0] := rfl
theorem exp_build2 (k n : Int) : Instr.fill ([(0, 1), (1, 1), (2, 1), (3, 1)].toArray[·]?) #[.int .i64 0, .int .i64 0, .string ⟨#[]⟩, .slice none 0 0] [(0, .int .i64 k), (1, .int .i64 n)] = some #[.int .i64 k, .int .i64 n, .string ⟨#[]⟩, .slice none 0 0] := rfl
theorem rul_build (s : ByteArray) (k n : Int) : Instr.fill ([(0, 1), (1, 4)].toArray[·]?) #[.string ⟨#[]⟩, .int .i64 0, .int .i64 0, .string ⟨#[]⟩, .slice none 0 0] [(0, .string s), (1, .agg #[.int .i64 k, .int .i64 n, .string ⟨#[]⟩, .slice none 0 0])] = some #[.string s, .int .i64 k, .int .i64 n, .string ⟨#[]⟩, .slice none 0 0] := rfl
def wDeus : ByteArray := ⟨#[100, 101, 117, 115]⟩
def wEst : ByteArray := ⟨#[101, 115, 116]⟩
def wDeuS : ByteArray := ⟨#[68, 101, 117, 115]⟩
def wCelum : ByteArray := ⟨#[99, 101, 108, 117, 109]⟩
def wCaelum : ByteArray := ⟨#[99, 97, 101, 108, 117, 109]⟩
def wGap : ByteArray := ⟨#[103, 97, 112]⟩
theorem levE_same {q : Nat → Nat → Bool} {i k : Nat} (h : q i k = true) : levE q (i + 1) (k + 1) ≤ levE q i k := by
  rw [levE, if_pos h]
  omega
theorem levE_more (q : Nat → Nat → Bool) (i k : Nat) : levE q (i + 1) (k + 1) ≤ levE q (i + 1) k + 1 := by
  rw [levE]
  omega
theorem lev_celum : lev (jnS [wCelum]) (jnS [wCaelum]) ≤ 1 := by
  show levE (byEq (jnS [wCelum]) (jnS [wCaelum])) 5 6 ≤ 1
  have h0 : levE (byEq (jnS [wCelum]) (jnS [wCaelum])) 0 0 = 0 := by rw [levE]
  have h1 : levE (byEq (jnS [wCelum]) (jnS [wCaelum])) 1 1 ≤ levE (byEq (jnS [wCelum]) (jnS [wCaelum])) 0 0 := levE_same (by decide +kernel)
  have h2 : levE (byEq (jnS [wCelum]) (jnS [wCaelum])) 1 2 ≤ levE (byEq (jnS [wCelum]) (jnS [wCaelum])) 1 1 + 1 := levE_more _ 0 1
  have h3 : levE (byEq (jnS [wCelum]) (jnS [wCaelum])) 2 3 ≤ levE (byEq (jnS [wCelum]) (jnS [wCaelum])) 1 2 := levE_same (by decide +kernel)
  have h4 : levE (byEq (jnS [wCelum]) (jnS [wCaelum])) 3 4 ≤ levE (byEq (jnS [wCelum]) (jnS [wCaelum])) 2 3 := levE_same (by decide +kernel)
  have h5 : levE (byEq (jnS [wCelum]) (jnS [wCaelum])) 4 5 ≤ levE (byEq (jnS [wCelum]) (jnS [wCaelum])) 3 4 := levE_same (by decide +kernel)
  have h6 : levE (byEq (jnS [wCelum]) (jnS [wCaelum])) 5 6 ≤ levE (byEq (jnS [wCelum]) (jnS [wCaelum])) 4 5 := levE_same (by decide +kernel)
  omega
theorem near_celum : nearB [wCelum] [wCaelum] 1 = true := by
  unfold nearB
  have := lev_celum
  rw [decide_eq_true (show max (jnS [wCelum]).length (jnS [wCaelum]).length ≤ 256 by decide +kernel), decide_eq_true (show ((lev (jnS [wCelum]) (jnS [wCaelum]) : Nat) : Int) ≤ 1 by omega)]
  rfl
theorem aw1 : hldB (.mk 4 0 ⟨#[]⟩ []) [wDeus, wEst] ⟨[wEst, wDeus], [0]⟩ = true ∧ hldE (.mk 4 0 ⟨#[]⟩ []) [wDeus, wEst] ⟨[wEst, wDeus], [0]⟩ = 0 := by decide +kernel
theorem aw2 : hldB (.mk 4 0 ⟨#[]⟩ []) [wEst, wDeus] ⟨[wDeuS, wEst], [0]⟩ = false ∧ hldE (.mk 4 0 ⟨#[]⟩ []) [wEst, wDeus] ⟨[wDeuS, wEst], [0]⟩ = 0 := by decide +kernel
theorem aw3 : hldB (.mk 5 1 ⟨#[]⟩ []) [wCelum] ⟨[wCaelum], [0]⟩ = true ∧ hldE (.mk 5 1 ⟨#[]⟩ []) [wCelum] ⟨[wCaelum], [0]⟩ = 0 := by
  have e : hldE (.mk 5 1 ⟨#[]⟩ []) [wCelum] ⟨[wCaelum], [0]⟩ = 0 := by decide +kernel
  refine ⟨?_, e⟩
  rw [hldB_ok e, hd_leaf _ _ _ _ _ _ (by decide)]
  exact near_celum
theorem aw4 : claN [⟨wGap, .mk 1 0 ⟨#[]⟩ []⟩] [wEst] ⟨[], []⟩ = wGap ∧ claE [⟨wGap, .mk 1 0 ⟨#[]⟩ []⟩] [wEst] ⟨[], []⟩ = 0 := by decide +kernel
theorem awH (k n : Int) (b ws : List ByteArray) (bv wv sv : Value) (w : World) (a : Bool) (e : hldB (.mk k n ⟨#[]⟩ []) b ⟨ws, [0]⟩ = a ∧ hldE (.mk k n ⟨#[]⟩ []) b ⟨ws, [0]⟩ = 0) (hB : Strs w bv b) (hW : Strs w wv ws) (hS : Ints w sv [0]) (hkd : KdL w) (hkf : KfL w) :
    SatV Tryz.prog 9 [.agg #[.int .i64 k, .int .i64 n, .string ⟨#[]⟩, .slice none 0 0], bv, .agg #[wv, sv]] w (.tuple #[.bool a, .int .i64 0]) := by
  have := Holds_sat _ bv (.agg #[wv, sv]) (.mk k n ⟨#[]⟩ []) b ⟨ws, [0]⟩ w (exp_leaf w k n) hB ⟨_, _, rfl, hW, hS⟩ hkd hkf
  rwa [e.1, e.2] at this
theorem Strs.nil27 (w : World) : Strs w (.slice none 0 0) [] := ⟨⟨by simp, ⟨_, _, rfl, .inl rfl⟩, fun a m c h => by simp only [Value.slice.injEq] at h;omega⟩, by simp⟩
theorem awC (bv : Value) (g : Nat) (w : World) (hs : Sl2 w (.slice (some ⟨g, 0, none⟩) 1 1) 5 1 (fun j c => [Value.string wGap, .int .i64 1, .int .i64 0, .string ⟨#[]⟩, .slice none 0 0].getD (j * 5 + c) undef)) (hB : Strs w bv [wEst]) (hkd : KdL w) (hkf : KfL w) (ht : TbL w) :
    SatV Tryz.prog 19 [.slice (some ⟨g, 0, none⟩) 1 1, bv, .agg #[.slice none 0 0, .slice none 0 0]] w (.tuple #[.string wGap, .int .i64 0]) := by
  have := Class_sat (.slice (some ⟨g, 0, none⟩) 1 1) bv (.agg #[.slice none 0 0, .slice none 0 0]) [⟨wGap, .mk 1 0 ⟨#[]⟩ []⟩] [wEst] ⟨[], []⟩ w ⟨_, hs, fun j hj => by
    obtain rfl : j = 0 := by simp at hj;omega
    exact ⟨_, _, _, _, rfl, exp_leaf w 1 0, (by decide : wGap.size ≤ 140737488355328)⟩, fun a k c e => by cases e; exact Nat.le_refl _⟩ hB ⟨_, _, rfl, Strs.nil27 w, Ints.nil w⟩ hkd hkf ht
  rwa [aw4.1, aw4.2] at this
set_option maxRecDepth 100000 in
set_option maxHeartbeats 4000000 in
theorem awake27_sat (w : World) (hkd : KdL w) (hkf : KfL w) (ht : TbL w) : SatV Tryz.prog 8 [] w (.bool true) := by
  refine SatL.of 62 [0] Tryz.func8 (by kernel_rfl) (by kernel_rfl) rfl rfl rfl rfl ?_
  repeat' (first|(apply OK_seq)|(apply thenQ_n)|(apply OK_region)|(apply OKx_gc 27;exact rfl; refine OKx_call (f := 27) rfl rfl (fun w1 hp => rd27_sat _ _ _ w1) ?_; rintro _ _ ⟨gI, rfl, rfl⟩; rw [List.cons_append, List.nil_append])|(refine OKx_buildG [(0, .int .i64 4)] #[.int .i64 4, .int .i64 0, .string ⟨#[]⟩, .slice none 0 0] rfl (exp_build1 4) ?_)|(refine OKx_buildG [(0, .int .i64 1)] #[.int .i64 1, .int .i64 0, .string ⟨#[]⟩, .slice none 0 0] rfl (exp_build1 1) ?_)|(refine OKx_buildG [(0, .int .i64 5), (1, .int .i64 1)] #[.int .i64 5, .int .i64 1, .string ⟨#[]⟩, .slice none 0 0] rfl (exp_build2 5 1) ?_)|(refine OKx_buildG [(0, .string wGap), (1, .agg #[.int .i64 1, .int .i64 0, .string ⟨#[]⟩, .slice none 0 0])] #[.string wGap, .int .i64 1, .int .i64 0, .string ⟨#[]⟩, .slice none 0 0] rfl (rul_build wGap 1 0) ?_)|(apply OKx_gt; refine OKx_slit1A (cs := [.string wGap, .int .i64 1, .int .i64 0, .string ⟨#[]⟩, .slice none 0 0]) rfl rfl rfl ?_; intro gR)|(apply OKx_gc 9;exact rfl; refine OKx_callV (f := 9) (v := .tuple #[.bool true, .int .i64 0]) rfl rfl rfl (fun w1 hp => awH 4 0 [wDeus, wEst] [wEst, wDeus] _ _ _ w1 true aw1 (hp.strs 2 rfl (by decide) (by decide)) (hp.strs 1 rfl (by decide) (by decide)) (hp.ints 0 rfl (by decide)) (hkd.below hp.below) (hkf.below hp.below)) ?_)|(apply OKx_gc 9;exact rfl; refine OKx_callV (f := 9) (v := .tuple #[.bool false, .int .i64 0]) rfl rfl rfl (fun w1 hp => awH 4 0 [wEst, wDeus] [wDeuS, wEst] _ _ _ w1 false aw2 (hp.strs 2 rfl (by decide) (by decide)) (hp.strs 1 rfl (by decide) (by decide)) (hp.ints 0 rfl (by decide)) (hkd.below hp.below) (hkf.below hp.below)) ?_)|(apply OKx_gc 9;exact rfl; refine OKx_callV (f := 9) (v := .tuple #[.bool true, .int .i64 0]) rfl rfl rfl (fun w1 hp => awH 5 1 [wCelum] [wCaelum] _ _ _ w1 true aw3 (hp.strs 2 rfl (by decide) (by decide)) (hp.strs 1 rfl (by decide) (by decide)) (hp.ints 0 rfl (by decide)) (hkd.below hp.below) (hkf.below hp.below)) ?_)|(apply OKx_gc 19;exact rfl; refine OKx_callV (f := 19) (v := .tuple #[.string wGap, .int .i64 0]) rfl rfl rfl (fun w1 hp => awC _ _ w1 (hp.sl2 1 rfl (by decide) rfl) (hp.strs 0 rfl (by decide) (by decide)) (hkd.below hp.below) (hkf.below hp.below) (ht.below hp.below)) ?_)|(apply OKx_gb; refine OKx_max4 (r := 0) rfl rfl rfl rfl (by decide) ?_)|(apply OKx_nilK)|(apply OK_ret)|(apply OKx_move;(conv=>lhs;whnf)<;>exact rfl)|(apply OKx_assign;(conv=>lhs;whnf)<;>exact rfl)|(apply OKx_eql;exact rfl;exact rfl;all_goals (intro _; try (exfalso;omega)))|(apply OKx_seql;exact rfl;exact rfl; all_goals intro _)|(apply OKx_pickT;exact rfl;(conv=>lhs;whnf)<;>exact rfl)|(apply OKx_guardT;exact rfl;exact rfl)|(apply OKx_notF;exact rfl)|(apply OKx_extract;exact rfl;(conv=>lhs;whnf)<;>exact rfl)|(apply OKx_slit1;(conv=>lhs;whnf)<;>exact rfl;exact rfl;intro _)|(apply OKx_slit2;(conv=>lhs;whnf)<;>exact rfl;(conv=>lhs;whnf)<;>exact rfl;exact rfl;exact rfl;intro _)|(apply OKx_build0))
  all_goals first
    | ((refine bodyQ_r1 (by ((conv=>lhs;whnf)<;>exact rfl)) ?_)
       exact ⟨_, Ent.nil, rfl, rfl⟩)
    | (exfalso; apply_assumption; rfl)
end Go.Proofs.YthnlnffmmioapaaGreatDoor
namespace Go.Proofs.YthnlnffmmioapaaGreatDoor
open Go.RowKit
theorem tw_lt {f : UInt8 → Bool} : ∀ (l : List UInt8) (j : Nat), j < (l.takeWhile f).length → f (l.getD j 0) = true
  | [], j, h => by simp at h
  | x :: l, j, h => by
    rw [List.takeWhile_cons] at h
    by_cases hx : f x = true
    · rw [if_pos hx] at h
      cases j with
      | zero => exact hx
      | succ j =>
        rw [List.length_cons] at h
        exact tw_lt l j (by omega)
    · rw [if_neg hx] at h
      simp at h
theorem tw_at {f : UInt8 → Bool} : ∀ (l : List UInt8), (l.takeWhile f).length < l.length → f (l.getD (l.takeWhile f).length 0) = false
  | [], h => by simp at h
  | x :: l, h => by
    by_cases hx : f x = true
    · have e : (x :: l).takeWhile f = x :: l.takeWhile f := by rw [List.takeWhile_cons, if_pos hx]
      rw [e] at h ⊢
      rw [List.length_cons] at h ⊢
      exact tw_at l (by simpa using h)
    · have e : (x :: l).takeWhile f = [] := by rw [List.takeWhile_cons, if_neg hx]
      rw [e]
      simpa using hx
theorem close_lt {p : List UInt8} {j : Nat} (h : j < closeI p) : (p.getD j 0).toNat ≠ 93 := fun e => by
  have := tw_lt p j h
  rw [decide_eq_true_eq] at this
  exact this (UInt8.toNat_inj.1 e)
theorem close_at {p : List UInt8} (h : closeI p < p.length) : (p.getD (closeI p) 0).toNat = 93 := by
  have := tw_at p h
  rw [decide_eq_false_iff_not, Decidable.not_not] at this
  unfold closeI
  rw [this]
  rfl
theorem inner_all {p : List UInt8} : (inner p).all chrB = true ↔ ∀ j, 1 ≤ j → j < closeI p → chrB (p.getD j 0) = true := by
  have hc := closeI_le p
  rw [List.all_eq_true]
  unfold inner
  constructor
  · intro h j h1 h2
    refine h _ ?_
    refine List.mem_of_getElem? (i := j - 1) ?_
    rw [List.getElem?_drop, show 1 + (j - 1) = j by omega, List.getElem?_take_of_lt h2, getD_lt _ _ _ (by omega)]
    exact List.getElem?_eq_getElem _
  · intro h c hm
    obtain ⟨i, hi, rfl⟩ := List.getElem_of_mem hm
    rw [List.length_drop, List.length_take] at hi
    have := h (1 + i) (by omega) (by omega)
    rw [getD_lt _ _ _ (by omega)] at this
    rw [List.getElem_drop, List.getElem_take]
    exact this
def elN (p : List UInt8) : Nat := if elErr p = 0 then elLen p else 0
theorem head_ne {p : List UInt8} (h : p ≠ []) : ∃ c r, p = c :: r := by
  cases p with
  | nil => exact absurd rfl h
  | cons c r => exact ⟨c, r, rfl⟩
theorem chr_63 : chrB 63 = true := by kernel_rfl
theorem chr_42 : chrB 42 = true := by kernel_rfl
theorem el_93 {r : List UInt8} : elErr (93 :: r) = 3 := by
  unfold elErr
  dsimp only
  rw [if_neg (by decide), if_neg (by decide), if_pos rfl]
theorem el_one {c : UInt8} {r : List UInt8} (h1 : c ≠ 91) (h2 : c ≠ 93) (h : chrB c = true) : elErr (c :: r) = 0 ∧ elLen (c :: r) = 1 := by
  unfold elErr elLen
  dsimp only
  rw [if_neg h1]
  refine ⟨?_, if_neg h1⟩
  by_cases hq : c = 63 ∨ c = 42
  · rw [if_pos hq]
  · rw [if_neg hq, if_neg h2]
    unfold chrB at h
    rw [Bool.or_eq_true, decide_eq_true_eq] at h
    rcases h with h | h
    · rw [if_pos h]
    · exact absurd (.inr h) hq
theorem el_bad {c : UInt8} {r : List UInt8} (h1 : c ≠ 91) (h2 : c ≠ 93) (h : chrB c = false) : elErr (c :: r) = 11 := by
  unfold elErr
  dsimp only
  have hq : ¬ (c = 63 ∨ c = 42) := by
    rintro (rfl | rfl)
    · rw [chr_63] at h; cases h
    · rw [chr_42] at h; cases h
  rw [if_neg hq, if_neg h1, if_neg h2]
  unfold chrB at h
  rw [Bool.or_eq_false_iff] at h
  rw [if_neg (by rw [h.1]; decide)]
theorem el_91 {r : List UInt8} : elErr (91 :: r) = (if closeI (91 :: r) = (91 :: r).length ∨ closeI (91 :: r) < 2 then 3 else if (inner (91 :: r)).all chrB then 0 else 11) ∧ elLen (91 :: r) = closeI (91 :: r) + 1 := by
  unfold elErr elLen
  dsimp only
  rw [if_neg (by decide), if_pos rfl, if_pos rfl]
  exact ⟨rfl, rfl⟩
theorem close_91 {r : List UInt8} : 1 ≤ closeI (91 :: r) := by
  unfold closeI
  rw [List.takeWhile_cons, if_pos (by decide), List.length_cons]
  omega
end Go.Proofs.YthnlnffmmioapaaGreatDoor
namespace Go.Proofs.YthnlnffmmioapaaGreatDoor
open Go.RowKit
set_option maxRecDepth 100000 in
set_option maxHeartbeats 4000000 in
theorem rkind7_sat (c : UInt8) (w : World) : SatV Tryz.prog 84 [.int .u8 (c.toNat : Int)] w (.int .i64 (kind (c.toNat : Int))) :=
  Sat.lib ⟨_, _, Tryz.func84, by kernel_rfl, rfl⟩ fun w1 hb => by
    refine (rkindB_any c w1).mono ?_
    rintro e w' ⟨rfl, rfl⟩
    exact ⟨_, [], rfl, Hp.refl _, rfl, rfl⟩
set_option maxRecDepth 100000 in
set_option maxHeartbeats 4000000 in
theorem rchar_sat (c : UInt8) (w : World) : SatV Tryz.prog 128 [.int .u8 (c.toNat : Int)] w (.bool (chrB c)) := by
  have hk := fun w1 => rkind7_sat c w1
  unfold chrB plainB
  by_cases h42 : c.toNat = 42
  · have h : c = 42 := UInt8.toNat_inj.1 h42
    rw [decide_eq_true h, Bool.or_true]
    refine SatL.of 15 [2] Tryz.func128 (by kernel_rfl) (by kernel_rfl) rfl rfl rfl rfl ?_
    repeat' (first|(apply OK_seq)|(apply thenQ_n)|(apply OK_region)|(apply OKx_nilK)|(apply OK_ret)|(apply OKx_move;(conv=>lhs;whnf)<;>exact rfl)|(apply OKx_assign;(conv=>lhs;whnf)<;>exact rfl)|(apply OKx_eql;exact rfl;exact rfl;all_goals (intro _; try (exfalso;omega)))|(apply OKx_pickT;exact rfl;(conv=>lhs;whnf)<;>exact rfl)|(apply OKx_guardF;exact rfl;exact rfl)|(apply OKx_guardU;exact rfl;exact rfl))
    refine bodyQ_r1 (by ((conv=>lhs;whnf)<;>exact rfl)) ?_
    exact ⟨_, Ent.nil, rfl, rfl⟩
  have h : ¬ c = 42 := fun h => h42 (by rw [h]; rfl)
  rw [decide_eq_false h, Bool.or_false]
  generalize kind (c.toNat : Int) = k at hk ⊢
  by_cases k0 : k = 0
  · rw [decide_eq_false (fun hh => hh.1 k0)]
    refine SatL.of 15 [2] Tryz.func128 (by kernel_rfl) (by kernel_rfl) rfl rfl rfl rfl ?_
    repeat' (first|(apply OK_seq)|(apply thenQ_n)|(apply OK_region)|(apply OKx_gc 84;exact rfl; refine OKx_callV (f := 84) rfl rfl rfl (fun w1 hp => hk w1) ?_)|(apply OKx_nilK)|(apply OK_ret)|(apply OKx_move;(conv=>lhs;whnf)<;>exact rfl)|(apply OKx_assign;(conv=>lhs;whnf)<;>exact rfl)|(apply OKx_eql;exact rfl;exact rfl;all_goals (intro _; try (exfalso;omega)))|(apply OKx_neq;exact rfl;exact rfl;all_goals (intro _; try (exfalso;omega)))|(apply OKx_pickF;exact rfl;(conv=>lhs;whnf)<;>exact rfl)|(apply OKx_guardT;exact rfl;exact rfl)|(apply OKx_guardF;exact rfl;exact rfl))
    refine bodyQ_r1 (by ((conv=>lhs;whnf)<;>exact rfl)) ?_
    exact ⟨_, Ent.nil, rfl, rfl⟩
  by_cases k6 : k = 6
  · rw [decide_eq_false (fun hh => hh.2 k6)]
    refine SatL.of 15 [2] Tryz.func128 (by kernel_rfl) (by kernel_rfl) rfl rfl rfl rfl ?_
    repeat' (first|(apply OK_seq)|(apply thenQ_n)|(apply OK_region)|(apply OKx_gc 84;exact rfl; refine OKx_callV (f := 84) rfl rfl rfl (fun w1 hp => hk w1) ?_)|(apply OKx_nilK)|(apply OK_ret)|(apply OKx_move;(conv=>lhs;whnf)<;>exact rfl)|(apply OKx_assign;(conv=>lhs;whnf)<;>exact rfl)|(apply OKx_eql;exact rfl;exact rfl;all_goals (intro _; try (exfalso;omega)))|(apply OKx_neq;exact rfl;exact rfl;all_goals (intro _; try (exfalso;omega)))|(apply OKx_pickT;exact rfl;(conv=>lhs;whnf)<;>exact rfl)|(apply OKx_pickF;exact rfl;(conv=>lhs;whnf)<;>exact rfl)|(apply OKx_guardT;exact rfl;exact rfl))
    refine bodyQ_r1 (by ((conv=>lhs;whnf)<;>exact rfl)) ?_
    exact ⟨_, Ent.nil, rfl, rfl⟩
  · rw [decide_eq_true ⟨k0, k6⟩]
    refine SatL.of 15 [2] Tryz.func128 (by kernel_rfl) (by kernel_rfl) rfl rfl rfl rfl ?_
    repeat' (first|(apply OK_seq)|(apply thenQ_n)|(apply OK_region)|(apply OKx_gc 84;exact rfl; refine OKx_callV (f := 84) rfl rfl rfl (fun w1 hp => hk w1) ?_)|(apply OKx_nilK)|(apply OK_ret)|(apply OKx_move;(conv=>lhs;whnf)<;>exact rfl)|(apply OKx_assign;(conv=>lhs;whnf)<;>exact rfl)|(apply OKx_eql;exact rfl;exact rfl;all_goals (intro _; try (exfalso;omega)))|(apply OKx_neq;exact rfl;exact rfl;all_goals (intro _; try (exfalso;omega)))|(apply OKx_pickT;exact rfl;(conv=>lhs;whnf)<;>exact rfl)|(apply OKx_pickF;exact rfl;(conv=>lhs;whnf)<;>exact rfl)|(apply OKx_guardT;exact rfl;exact rfl))
    refine bodyQ_r1 (by ((conv=>lhs;whnf)<;>exact rfl)) ?_
    exact ⟨_, Ent.nil, rfl, rfl⟩
set_option maxRecDepth 100000 in
set_option maxHeartbeats 4000000 in
theorem elem7_sat (p : List UInt8) (w : World) (hp : p ≠ []) (hl : p.length ≤ 140737488355328) : SatV Tryz.prog 119 [.string (bOf p)] w (.tuple #[.int .i64 (elN p : Int), .int .i64 (elErr p)]) := by
  have hz : (bOf p).size = p.length := bOf_size p
  have hcl := closeI_le p
  obtain ⟨c, r, hpc⟩ := head_ne hp
  have hc : p.getD 0 0 = c := by rw [hpc]; rfl
  have h0 : 0 < p.length := by rw [hpc, List.length_cons];omega
  by_cases c93 : c.toNat = 93
  · have e : c = 93 := UInt8.toNat_inj.1 c93
    have h1 : elErr p = 3 := by rw [hpc, e]; exact el_93
    have h2 : elN p = 0 := by unfold elN; rw [if_neg (by rw [h1]; decide)]
    rw [h1, h2]
    refine SatL.of 48 [2, 3] Tryz.func119 (by kernel_rfl) (by kernel_rfl) rfl rfl rfl rfl ?_
    repeat' (first|(apply OK_seq)|(apply thenQ_n)|(apply OK_region)|(refine OKx_idxB7 (i := 0) rfl rfl h0 ?_; rw [hc])|(apply OKx_nilK)|(apply thenQ_r)|(apply OK_condT;exact rfl)|(apply OK_ret)|(apply OKx_move;(conv=>lhs;whnf)<;>exact rfl)|(apply OKx_assign;(conv=>lhs;whnf)<;>exact rfl)|(apply OKx_eql;exact rfl;exact rfl;all_goals (intro _; try (exfalso;omega))))
    refine bodyQ_r2 (by ((conv=>lhs;whnf)<;>exact rfl)) (by ((conv=>lhs;whnf)<;>exact rfl)) ?_
    exact ⟨_, Ent.nil, rfl, rfl⟩
  by_cases c91 : c.toNat = 91
  rotate_left
  · have n91 : c ≠ 91 := fun e => c91 (by rw [e]; rfl)
    have n93 : c ≠ 93 := fun e => c93 (by rw [e]; rfl)
    have cc := fun w1 => rchar_sat c w1
    cases hb : chrB c with
    | true =>
      rw [hb] at cc
      have h1 := el_one (r := r) n91 n93 hb
      rw [← hpc] at h1
      have h2 : elN p = 1 := by unfold elN; rw [if_pos h1.1, h1.2]
      rw [h1.1, h2]
      refine SatL.of 48 [2, 3] Tryz.func119 (by kernel_rfl) (by kernel_rfl) rfl rfl rfl rfl ?_
      repeat' (first|(apply OK_seq)|(apply thenQ_n)|(apply OK_region)|(refine OKx_idxB7 (i := 0) rfl rfl h0 ?_; rw [hc])|(apply OKx_gc 128;exact rfl; refine OKx_callV (f := 128) rfl rfl rfl (fun w1 hp => cc w1) ?_)|(apply OKx_nilK)|(apply thenQ_r)|(apply OK_condT;exact rfl)|(apply OK_condF;exact rfl)|(apply OK_skip)|(apply OK_ret)|(apply OKx_move;(conv=>lhs;whnf)<;>exact rfl)|(apply OKx_assign;(conv=>lhs;whnf)<;>exact rfl)|(apply OKx_eql;exact rfl;exact rfl;all_goals (intro _; try (exfalso;omega)))|(apply OKx_neq;exact rfl;exact rfl;all_goals (intro _; try (exfalso;omega)))|(apply OKx_notT;exact rfl))
      refine bodyQ_r2 (by ((conv=>lhs;whnf)<;>exact rfl)) (by ((conv=>lhs;whnf)<;>exact rfl)) ?_
      exact ⟨_, Ent.nil, rfl, rfl⟩
    | false =>
      rw [hb] at cc
      have h1 := el_bad (r := r) n91 n93 hb
      rw [← hpc] at h1
      have h2 : elN p = 0 := by unfold elN; rw [if_neg (by rw [h1]; decide)]
      rw [h1, h2]
      refine SatL.of 48 [2, 3] Tryz.func119 (by kernel_rfl) (by kernel_rfl) rfl rfl rfl rfl ?_
      repeat' (first|(apply OK_seq)|(apply thenQ_n)|(apply OK_region)|(refine OKx_idxB7 (i := 0) rfl rfl h0 ?_; rw [hc])|(apply OKx_gc 128;exact rfl; refine OKx_callV (f := 128) rfl rfl rfl (fun w1 hp => cc w1) ?_)|(apply OKx_nilK)|(apply thenQ_r)|(apply OK_condT;exact rfl)|(apply OK_condF;exact rfl)|(apply OK_skip)|(apply OK_ret)|(apply OKx_move;(conv=>lhs;whnf)<;>exact rfl)|(apply OKx_assign;(conv=>lhs;whnf)<;>exact rfl)|(apply OKx_eql;exact rfl;exact rfl;all_goals (intro _; try (exfalso;omega)))|(apply OKx_neq;exact rfl;exact rfl;all_goals (intro _; try (exfalso;omega)))|(apply OKx_notF;exact rfl))
      refine bodyQ_r2 (by ((conv=>lhs;whnf)<;>exact rfl)) (by ((conv=>lhs;whnf)<;>exact rfl)) ?_
      exact ⟨_, Ent.nil, rfl, rfl⟩
  have e91 : c = 91 := UInt8.toNat_inj.1 c91
  subst e91
  have h1 := el_91 (r := r)
  have hc1 := close_91 (r := r)
  rw [← hpc] at h1 hc1
  have hN : elErr p ≠ 0 → elN p = 0 := fun h => by unfold elN; rw [if_neg h]
  refine SatL.of 48 [2, 3] Tryz.func119 (by kernel_rfl) (by kernel_rfl) rfl rfl rfl rfl ?_
  repeat' (first|(apply OK_seq)|(apply thenQ_n)|(apply OK_region)|(refine OKx_idxB7 (i := 0) rfl rfl h0 ?_; rw [hc])|(apply OKx_nilK)|(apply OK_block)|(apply OK_condF;exact rfl)|(apply OK_skip)|(apply OKx_move;(conv=>lhs;whnf)<;>exact rfl)|(apply OKx_assign;(conv=>lhs;whnf)<;>exact rfl)|(apply OKx_eql;exact rfl;exact rfl;all_goals (intro _; try (exfalso;omega)))|(apply OKx_neq;exact rfl;exact rfl;all_goals (intro _; try (exfalso;omega))))
  refine OK_loop1 5 [5, 16, 17, 18, 19, 20, 21, 22, 23, 24, 25, 26, 27] (fun mm u5 L => ∃ k : Nat, k + mm = closeI p ∧ 1 ≤ k ∧ u5 = .int .i64 (k : Int) ∧ L = []) (closeI p - 1) _ (Ent.refl _ _) ⟨1, by omega, Nat.le_refl _, rfl, rfl⟩ ?_
  rintro mm u5 L G ⟨k, hkm, hk1, rfl, rfl⟩
  by_cases hk : k < closeI p
  · have hne := close_lt hk
    repeat' (first|(apply OK_seq)|(apply thenQ_n)|(apply OK_region)|(refine OKx_idxB7 (i := k) rfl rfl (by omega) ?_)|(apply OKx_nilK)|(apply OK_block)|(apply blockQ_n)|(apply OK_condT;exact rfl)|(apply OK_skip)|(apply OKx_move;(conv=>lhs;whnf)<;>exact rfl)|(apply OKx_assign;(conv=>lhs;whnf)<;>exact rfl)|(apply OKx_lenS;exact rfl)|(apply OKx_lss;exact rfl;exact rfl;all_goals (intro _; try (exfalso;omega)))|(apply OKx_neq;exact rfl;exact rfl;all_goals (intro _; try (exfalso;omega)))|(apply OKx_inc;exact rfl;exact rfl;omega)|(apply OKx_pickT;exact rfl;(conv=>lhs;whnf)<;>exact rfl)|(apply OKx_guardT;exact rfl;exact rfl))
    refine ⟨by (repeat' (first | refine agree_upd rfl ?_ | exact agree_over | exact agree_refl _ _ | refine agree_over2 rfl ?_)), mm - 1, _, by omega, Ent.refl _ _, ?_⟩
    exact ⟨k + 1, by omega, by omega, rfl, rfl⟩
  obtain rfl : k = closeI p := by omega
  by_cases hlen : closeI p = p.length
  · have h3 : elErr p = 3 := by rw [h1.1, if_pos (.inl hlen)]
    rw [hN (by rw [h3]; decide), h3]
    repeat' (first|(apply OK_seq)|(apply thenQ_n)|(apply OK_region)|(apply OKx_nilK)|(apply blockQ_s)|(apply thenQ_e)|(apply thenQ_r)|(apply OK_condT;exact rfl)|(apply OK_condF;exact rfl)|(apply OK_exit)|(apply OK_ret)|(apply OKx_move;(conv=>lhs;whnf)<;>exact rfl)|(apply OKx_assign;(conv=>lhs;whnf)<;>exact rfl)|(apply OKx_lenS;exact rfl)|(apply OKx_lss;exact rfl;exact rfl;all_goals (intro _; try (exfalso;omega)))|(apply OKx_eql;exact rfl;exact rfl;all_goals (intro _; try (exfalso;omega)))|(apply OKx_pickT;exact rfl;(conv=>lhs;whnf)<;>exact rfl)|(apply OKx_pickF;exact rfl;(conv=>lhs;whnf)<;>exact rfl)|(apply OKx_guardF;exact rfl;exact rfl))
    refine bodyQ_r2 (by ((conv=>lhs;whnf)<;>exact rfl)) (by ((conv=>lhs;whnf)<;>exact rfl)) ?_
    exact ⟨_, Ent.nil, rfl, rfl⟩
  have hat := close_at (p := p) (by omega)
  by_cases hone : closeI p = 1
  · have h3 : elErr p = 3 := by rw [h1.1, if_pos (.inr (by omega))]
    rw [hN (by rw [h3]; decide), h3]
    repeat' (first|(apply OK_seq)|(apply thenQ_n)|(apply OK_region)|(refine OKx_idxB7 (i := closeI p) rfl rfl (by omega) ?_)|(apply OKx_nilK)|(apply blockQ_s)|(apply thenQ_e)|(apply thenQ_r)|(apply OK_condT;exact rfl)|(apply OK_condF;exact rfl)|(apply OK_exit)|(apply OK_ret)|(apply OKx_move;(conv=>lhs;whnf)<;>exact rfl)|(apply OKx_assign;(conv=>lhs;whnf)<;>exact rfl)|(apply OKx_lenS;exact rfl)|(apply OKx_lss;exact rfl;exact rfl;all_goals (intro _; try (exfalso;omega)))|(apply OKx_eql;exact rfl;exact rfl;all_goals (intro _; try (exfalso;omega)))|(apply OKx_neq;exact rfl;exact rfl;all_goals (intro _; try (exfalso;omega)))|(apply OKx_pickT;exact rfl;(conv=>lhs;whnf)<;>exact rfl)|(apply OKx_pickF;exact rfl;(conv=>lhs;whnf)<;>exact rfl)|(apply OKx_guardT;exact rfl;exact rfl))
    refine bodyQ_r2 (by ((conv=>lhs;whnf)<;>exact rfl)) (by ((conv=>lhs;whnf)<;>exact rfl)) ?_
    exact ⟨_, Ent.nil, rfl, rfl⟩
  rw [if_neg (by omega)] at h1
  repeat' (first|(apply OK_seq)|(apply thenQ_n)|(apply OK_region)|(refine OKx_idxB7 (i := closeI p) rfl rfl (by omega) ?_)|(apply OKx_nilK)|(apply OK_block)|(apply blockQ_s)|(apply thenQ_e)|(apply OK_condF;exact rfl)|(apply OK_skip)|(apply OK_exit)|(apply OKx_move;(conv=>lhs;whnf)<;>exact rfl)|(apply OKx_assign;(conv=>lhs;whnf)<;>exact rfl)|(apply OKx_lenS;exact rfl)|(apply OKx_lss;exact rfl;exact rfl;all_goals (intro _; try (exfalso;omega)))|(apply OKx_eql;exact rfl;exact rfl;all_goals (intro _; try (exfalso;omega)))|(apply OKx_neq;exact rfl;exact rfl;all_goals (intro _; try (exfalso;omega)))|(apply OKx_pickT;exact rfl;(conv=>lhs;whnf)<;>exact rfl)|(apply OKx_pickF;exact rfl;(conv=>lhs;whnf)<;>exact rfl)|(apply OKx_guardT;exact rfl;exact rfl))
  refine OK_loop1 6 [2, 3, 6, 36, 37, 38, 39, 40, 41, 42, 43, 44, 45] (fun mm u6 L => ∃ i : Nat, i + mm = closeI p ∧ 1 ≤ i ∧ (∀ j, 1 ≤ j → j < i → chrB (p.getD j 0) = true) ∧ u6 = .int .i64 (i : Int) ∧ L = []) (closeI p - 1) _ (Ent.refl _ _) ⟨1, by omega, Nat.le_refl _, fun j h1 h2 => absurd h1 (by omega), rfl, rfl⟩ ?_
  rintro mm2 u6 L G2 ⟨i, him, hi1, hall, rfl, rfl⟩
  by_cases hi : i < closeI p
  · have cc := fun w1 => rchar_sat (p.getD i 0) w1
    cases hb : chrB (p.getD i 0) with
    | true =>
      rw [hb] at cc
      repeat' (first|(apply OK_seq)|(apply thenQ_n)|(apply OK_region)|(refine OKx_idxB7 (i := i) rfl rfl (by omega) ?_)|(apply OKx_gc 128;exact rfl; refine OKx_callV (f := 128) rfl rfl rfl (fun w1 hp => cc w1) ?_)|(apply OKx_nilK)|(apply OK_block)|(apply blockQ_n)|(apply OK_condT;exact rfl)|(apply OK_condF;exact rfl)|(apply OK_skip)|(apply OKx_move;(conv=>lhs;whnf)<;>exact rfl)|(apply OKx_assign;(conv=>lhs;whnf)<;>exact rfl)|(apply OKx_lss;exact rfl;exact rfl;all_goals (intro _; try (exfalso;omega)))|(apply OKx_inc;exact rfl;exact rfl;omega)|(apply OKx_notT;exact rfl))
      refine ⟨by (repeat' (first | refine agree_upd rfl ?_ | exact agree_over | exact agree_refl _ _ | refine agree_over2 rfl ?_)), mm2 - 1, _, by omega, Ent.refl _ _, ?_⟩
      refine ⟨i + 1, by omega, by omega, fun j h1 h2 => ?_, rfl, rfl⟩
      by_cases hj : j < i
      · exact hall j h1 hj
      · obtain rfl : j = i := by omega
        exact hb
    | false =>
      rw [hb] at cc
      have h3 : elErr p = 11 := by
        rw [h1.1, if_neg]
        intro hh
        rw [inner_all.1 hh i hi1 hi] at hb
        cases hb
      rw [hN (by rw [h3]; decide), h3]
      repeat' (first|(apply OK_seq)|(apply thenQ_n)|(apply OK_region)|(refine OKx_idxB7 (i := i) rfl rfl (by omega) ?_)|(apply OKx_gc 128;exact rfl; refine OKx_callV (f := 128) rfl rfl rfl (fun w1 hp => cc w1) ?_)|(apply OKx_nilK)|(apply OK_block)|(apply thenQ_r)|(apply blockQ_r)|(apply OK_condT;exact rfl)|(apply OK_skip)|(apply OK_ret)|(apply OKx_move;(conv=>lhs;whnf)<;>exact rfl)|(apply OKx_assign;(conv=>lhs;whnf)<;>exact rfl)|(apply OKx_lss;exact rfl;exact rfl;all_goals (intro _; try (exfalso;omega)))|(apply OKx_notF;exact rfl))
      refine bodyQ_r2 (by ((conv=>lhs;whnf)<;>exact rfl)) (by ((conv=>lhs;whnf)<;>exact rfl)) ?_
      exact ⟨_, Ent.nil, rfl, rfl⟩
  · obtain rfl : i = closeI p := by omega
    have h3 : elErr p = 0 := by rw [h1.1, if_pos (inner_all.2 hall)]
    have h4 : elN p = closeI p + 1 := by unfold elN; rw [if_pos h3, h1.2]
    rw [h3, h4]
    repeat' (first|(apply OK_seq)|(apply thenQ_n)|(apply OK_region)|(apply OKx_nilK)|(apply blockQ_s)|(apply thenQ_e)|(apply OK_condF;exact rfl)|(apply OK_exit)|(apply OK_ret)|(apply OKx_move;(conv=>lhs;whnf)<;>exact rfl)|(apply OKx_assign;(conv=>lhs;whnf)<;>exact rfl)|(apply OKx_lss;exact rfl;exact rfl;all_goals (intro _; try (exfalso;omega)))|(apply OKx_inc;exact rfl;exact rfl;omega))
    refine bodyQ_r2 (by ((conv=>lhs;whnf)<;>exact rfl)) (by ((conv=>lhs;whnf)<;>exact rfl)) ?_
    exact ⟨_, Ent.nil, rfl, rfl⟩
set_option maxRecDepth 100000 in
set_option maxHeartbeats 4000000 in
theorem rcheckW_sat (s : List UInt8) (w : World) (hs : s.length ≤ 140737488355328) : SatV Tryz.prog 101 [.string (bOf s)] w (.int .i64 (chkS s)) := by
  have hz : (bOf s).size = s.length := bOf_size s
  unfold chkS
  by_cases h64 : 64 < s.length
  · rw [if_pos h64]
    refine SatL.of 17 [2] Tryz.func101 (by kernel_rfl) (by kernel_rfl) rfl rfl rfl rfl ?_
    repeat' (first|(apply OK_seq)|(apply thenQ_n)|(apply OK_region)|(apply OKx_nilK)|(apply thenQ_r)|(apply OK_condT;exact rfl)|(apply OK_ret)|(apply OKx_move;(conv=>lhs;whnf)<;>exact rfl)|(apply OKx_assign;(conv=>lhs;whnf)<;>exact rfl)|(apply OKx_lenS;exact rfl)|(apply OKx_gtr;exact rfl;exact rfl;all_goals (intro _; try (exfalso;omega))))
    refine bodyQ_r1 (by ((conv=>lhs;whnf)<;>exact rfl)) ?_
    exact ⟨_, Ent.nil, rfl, rfl⟩
  rw [if_neg h64]
  refine SatL.of 17 [2] Tryz.func101 (by kernel_rfl) (by kernel_rfl) rfl rfl rfl rfl ?_
  repeat' (first|(apply OK_seq)|(apply thenQ_n)|(apply OK_region)|(apply OKx_nilK)|(apply OK_block)|(apply OK_condF;exact rfl)|(apply OK_skip)|(apply OKx_move;(conv=>lhs;whnf)<;>exact rfl)|(apply OKx_assign;(conv=>lhs;whnf)<;>exact rfl)|(apply OKx_lenS;exact rfl)|(apply OKx_gtr;exact rfl;exact rfl;all_goals (intro _; try (exfalso;omega))))
  refine OK_loop1 3 [2, 3, 7, 8, 9, 10, 11, 12, 13, 14, 15, 16] (fun mm u3 L => ∃ i : Nat, i + mm = s.length ∧ (∀ j, j < i → (s.getD j 0).toNat ≠ 32) ∧ u3 = .int .i64 (i : Int) ∧ L = []) s.length _ (Ent.refl _ _) ⟨0, by omega, fun j h => absurd h (by omega), rfl, rfl⟩ ?_
  rintro mm u3 L G ⟨i, him, hall, rfl, rfl⟩
  by_cases hi : i < s.length
  · by_cases h32 : (s.getD i 0).toNat = 32
    · have hm : 32 ∈ s := by
        have e : s.getD i 0 = 32 := UInt8.toNat_inj.1 h32
        rw [getD_lt _ _ _ hi] at e
        rw [← e]
        exact List.getElem_mem hi
      rw [if_pos hm]
      repeat' (first|(apply OK_seq)|(apply thenQ_n)|(apply OK_region)|(refine OKx_idxB7 (i := i) rfl rfl hi ?_)|(apply OKx_nilK)|(apply OK_block)|(apply thenQ_r)|(apply blockQ_r)|(apply OK_condT;exact rfl)|(apply OK_skip)|(apply OK_ret)|(apply OKx_move;(conv=>lhs;whnf)<;>exact rfl)|(apply OKx_assign;(conv=>lhs;whnf)<;>exact rfl)|(apply OKx_lenS;exact rfl)|(apply OKx_lss;exact rfl;exact rfl;all_goals (intro _; try (exfalso;omega)))|(apply OKx_eql;exact rfl;exact rfl;all_goals (intro _; try (exfalso;omega))))
      refine bodyQ_r1 (by ((conv=>lhs;whnf)<;>exact rfl)) ?_
      exact ⟨_, Ent.nil, rfl, rfl⟩
    · repeat' (first|(apply OK_seq)|(apply thenQ_n)|(apply OK_region)|(refine OKx_idxB7 (i := i) rfl rfl hi ?_)|(apply OKx_nilK)|(apply OK_block)|(apply blockQ_n)|(apply OK_condT;exact rfl)|(apply OK_condF;exact rfl)|(apply OK_skip)|(apply OKx_move;(conv=>lhs;whnf)<;>exact rfl)|(apply OKx_assign;(conv=>lhs;whnf)<;>exact rfl)|(apply OKx_lenS;exact rfl)|(apply OKx_lss;exact rfl;exact rfl;all_goals (intro _; try (exfalso;omega)))|(apply OKx_eql;exact rfl;exact rfl;all_goals (intro _; try (exfalso;omega)))|(apply OKx_inc;exact rfl;exact rfl;omega))
      refine ⟨by (repeat' (first | refine agree_upd rfl ?_ | exact agree_over | exact agree_refl _ _ | refine agree_over2 rfl ?_)), mm - 1, _, by omega, Ent.refl _ _, ?_⟩
      refine ⟨i + 1, by omega, fun j hj => ?_, rfl, rfl⟩
      by_cases hji : j < i
      · exact hall j hji
      · obtain rfl : j = i := by omega
        exact h32
  · have hm : 32 ∉ s := fun hm => by
      obtain ⟨j, hj, e⟩ := List.getElem_of_mem hm
      refine hall j (by omega) ?_
      rw [getD_lt _ _ _ hj, e]
      rfl
    rw [if_neg hm]
    repeat' (first|(apply OK_seq)|(apply thenQ_n)|(apply OK_region)|(apply OKx_nilK)|(apply blockQ_s)|(apply thenQ_e)|(apply OK_condF;exact rfl)|(apply OK_exit)|(apply OK_ret)|(apply OKx_move;(conv=>lhs;whnf)<;>exact rfl)|(apply OKx_assign;(conv=>lhs;whnf)<;>exact rfl)|(apply OKx_lenS;exact rfl)|(apply OKx_lss;exact rfl;exact rfl;all_goals (intro _; try (exfalso;omega))))
    refine bodyQ_r1 (by ((conv=>lhs;whnf)<;>exact rfl)) ?_
    exact ⟨_, Ent.nil, rfl, rfl⟩
set_option maxRecDepth 100000 in
set_option maxHeartbeats 4000000 in
theorem rCheck_sat (p : List UInt8) (w : World) (hp : p.length ≤ 140737488355328) : SatV Tryz.prog 100 [.string (bOf p)] w (.int .i64 (patE p)) := by
  have hz : (bOf p).size = p.length := bOf_size p
  unfold patE
  by_cases h64 : 64 < p.length
  · rw [if_pos h64]
    refine SatL.of 22 [2] Tryz.func100 (by kernel_rfl) (by kernel_rfl) rfl rfl rfl rfl ?_
    repeat' (first|(apply OK_seq)|(apply thenQ_n)|(apply OK_region)|(apply OKx_nilK)|(apply thenQ_r)|(apply OK_condT;exact rfl)|(apply OK_ret)|(apply OKx_move;(conv=>lhs;whnf)<;>exact rfl)|(apply OKx_assign;(conv=>lhs;whnf)<;>exact rfl)|(apply OKx_lenS;exact rfl)|(apply OKx_gtr;exact rfl;exact rfl;all_goals (intro _; try (exfalso;omega))))
    refine bodyQ_r1 (by ((conv=>lhs;whnf)<;>exact rfl)) ?_
    exact ⟨_, Ent.nil, rfl, rfl⟩
  rw [if_neg h64]
  refine SatL.of 22 [2] Tryz.func100 (by kernel_rfl) (by kernel_rfl) rfl rfl rfl rfl ?_
  repeat' (first|(apply OK_seq)|(apply thenQ_n)|(apply OK_region)|(apply OKx_nilK)|(apply OK_block)|(apply OK_condF;exact rfl)|(apply OK_skip)|(apply OKx_move;(conv=>lhs;whnf)<;>exact rfl)|(apply OKx_assign;(conv=>lhs;whnf)<;>exact rfl)|(apply OKx_lenS;exact rfl)|(apply OKx_gtr;exact rfl;exact rfl;all_goals (intro _; try (exfalso;omega))))
  refine OK_loop1 0 [0, 2, 3, 4, 8, 9, 10, 11, 12, 13, 14, 15, 16, 17, 18, 19, 20, 21] (fun mm u0 L => ∃ (k : Nat) (done : List (List UInt8)), k + mm = p.length ∧ inv p k done ∧ u0 = .string (bOf (p.drop k)) ∧ L = []) p.length _ (Ent.refl _ _) ⟨0, [], by omega, inv_0 p, rfl, rfl⟩ ?_
  rintro mm u0 L G ⟨k, done, hkm, hinv, rfl, rfl⟩
  have hzd : (bOf (p.drop k)).size = p.length - k := by rw [bOf_size, List.length_drop]
  by_cases hk : k < p.length
  · have hne : p.drop k ≠ [] := fun e => by
      have := congrArg List.length e
      rw [List.length_drop, List.length_nil] at this
      omega
    have ce := fun w1 => elem7_sat (p.drop k) w1 hne (by rw [List.length_drop];omega)
    by_cases he : elErr (p.drop k) = 0
    · have hnx := inv_next hinv hk he
      have h1 : elN (p.drop k) = elLen (p.drop k) := by unfold elN; rw [if_pos he]
      have h2 := first_ok hne he
      rw [List.length_drop] at h2
      have h3 := elLen_pos hne
      rw [he, h1] at ce
      repeat' (first|(apply OK_seq)|(apply thenQ_n)|(apply OK_region)|(apply OKx_gc 119;exact rfl; refine OKx_callV (f := 119) rfl rfl rfl (fun w1 hp => ce w1) ?_)|(refine OKx_sslL7 (s := p.drop k) (l := elLen (p.drop k)) rfl rfl (by rw [List.length_drop];omega) (by rw [List.drop_drop]) ?_)|(apply OKx_nilK)|(apply OK_block)|(apply blockQ_n)|(apply OK_condT;exact rfl)|(apply OK_condF;exact rfl)|(apply OK_skip)|(apply OKx_move;(conv=>lhs;whnf)<;>exact rfl)|(apply OKx_assign;(conv=>lhs;whnf)<;>exact rfl)|(apply OKx_lenS;exact rfl)|(apply OKx_gtr;exact rfl;exact rfl;all_goals (intro _; try (exfalso;omega)))|(apply OKx_neq;exact rfl;exact rfl;all_goals (intro _; try (exfalso;omega)))|(apply OKx_extract;exact rfl;(conv=>lhs;whnf)<;>exact rfl))
      refine ⟨by (repeat' (first | refine agree_upd rfl ?_ | exact agree_over | exact agree_refl _ _ | refine agree_over2 rfl ?_)), mm - elLen (p.drop k), _, by omega, Ent.refl _ _, ?_⟩
      exact ⟨k + elLen (p.drop k), _, by omega, hnx.1, rfl, rfl⟩
    · have hbd := inv_bad hinv hk he
      have hb1 : -9223372036854775808 ≤ elErr (p.drop k) := by have := patE_bd p; unfold patE at this; rw [if_neg h64, hbd] at this; exact this.1
      rw [hbd]
      generalize elErr (p.drop k) = er at *
      repeat' (first|(apply OK_seq)|(apply thenQ_n)|(apply OK_region)|(apply OKx_gc 119;exact rfl; refine OKx_callV (f := 119) rfl rfl rfl (fun w1 hp => ce w1) ?_)|(apply OKx_nilK)|(apply OK_block)|(apply thenQ_r)|(apply blockQ_r)|(apply OK_condT;exact rfl)|(apply OK_skip)|(apply OK_ret)|(apply OKx_move;(conv=>lhs;whnf)<;>exact rfl)|(apply OKx_assign;(conv=>lhs;whnf)<;>exact rfl)|(apply OKx_lenS;exact rfl)|(apply OKx_gtr;exact rfl;exact rfl;all_goals (intro _; try (exfalso;omega)))|(apply OKx_neq;exact rfl;exact rfl;all_goals (intro _; try (exfalso;omega)))|(apply OKx_extract;exact rfl;(conv=>lhs;whnf)<;>exact rfl))
      refine bodyQ_r1 (by ((conv=>lhs;whnf)<;>exact rfl)) ?_
      exact ⟨_, Ent.nil, rfl, rfl⟩
  · obtain rfl : k = p.length := by have := hinv.1;omega
    have he : errP p = 0 := by rw [hinv.2.2.1, List.drop_length]; rfl
    rw [he]
    repeat' (first|(apply OK_seq)|(apply thenQ_n)|(apply OK_region)|(apply OKx_nilK)|(apply blockQ_s)|(apply thenQ_e)|(apply OK_condF;exact rfl)|(apply OK_exit)|(apply OK_ret)|(apply OKx_move;(conv=>lhs;whnf)<;>exact rfl)|(apply OKx_assign;(conv=>lhs;whnf)<;>exact rfl)|(apply OKx_lenS;exact rfl)|(apply OKx_gtr;exact rfl;exact rfl;all_goals (intro _; try (exfalso;omega))))
    refine bodyQ_r1 (by ((conv=>lhs;whnf)<;>exact rfl)) ?_
    exact ⟨_, Ent.nil, rfl, rfl⟩
end Go.Proofs.YthnlnffmmioapaaGreatDoor
namespace Go.Proofs.YthnlnffmmioapaaGreatDoor
open Go.RowKit
section
variable {P : Program} {n : Nat} {w0 : World} {K : Fm → List Res → Prop} {F : Fm} {L : List Res} {m : Md} {ops : Array Oper} {rest : List Oper} {d : Option Nat} {ty : TypeId} {pos : String} {aft : Array Edge}
theorem OKx_sslH7 {t : TypeId} [T : TStr P t] {x hi : Operand} {s r : List UInt8} {h : Nat} {k : IntKind} (hx : rv n F x = .string (bOf s)) (hl : rv n F hi = .int k (h : Int)) (h1 : h ≤ s.length) (hr : s.take h = r)
    (kk : OKx P n w0 m ops K rest (updo F d (.string (bOf r))) L) : OKx P n w0 m ops K (⟨d, .slice t x none (some hi) none, ty, pos, aft, none⟩ :: rest) F L :=
  OKx_still (fun w _ _ _ _ _ => by
    have h2 := run_sliceAt_string (P := P) (w := w) t (.string (bOf s)) none (some (.int k (h : Int))) none T.und
    have h3 := run_slice_string_h (P := P) w t (bOf s) T.und k (h : Int) (by omega) (by rw [bOf_size];omega)
    have e : (bOf s).extract 0 h = bOf r := by
      rw [Lib.extract_eq, data_bOf, List.drop_zero, Nat.sub_zero, hr]
      rfl
    rw [Int.toNat_natCast, e] at h3
    rw [h3] at h2
    simp [execOp, hx, hl, h2, Result.andThen]) kk
end
end Go.Proofs.YthnlnffmmioapaaGreatDoor
