/-
  Part 12 of the proof: La02, Pu02. No statement of the seat is proved here.
-/
import Derived.Test.YtkimmlhcaanfjaaDoorMHNu0211
namespace Go.Proofs.YtkimmlhcaanfjaaDoor
open Go.RowKit
theorem exParse : prsR [49, 50, 46, 53, 112, 116] = (12500, 0) := by decide +kernel
theorem exPrint : prtR (-250) = ([45, 48, 46, 50, 53, 112, 116], 0) := by
  have e1 : Lib.itoa 0 = [48] := by
    have := itoa_pos 0
    rw [dec_small (by decide)] at this
    exact this
  have e2 : (Lib.itoa (1000 + 250)).drop 1 = [50, 53, 48] := by
    have := itoa_pos (1000 + 250)
    rw [show (1000 + 250 : Int) = ((1000 + 250 : Nat) : Int) from rfl, this, dec_four 250 (by decide)]
    rfl
  have h1 : prtL (-250) = ((if (-250 : Int) < 0 then [45] else []) ++ Lib.itoa (absI (-250) / 1000)) ++ prtF (absI (-250) % 1000) ++ [112, 116] := rfl
  have h2 : absI (-250) = 250 := by decide
  have h3 : prtF 250 = 46 :: Lib.trimRightB ((Lib.itoa (1000 + 250)).drop 1) 48 := if_pos (by decide)
  have h4 : (250 : Int) / 1000 = 0 := by decide
  have h5 : (250 : Int) % 1000 = 250 := by decide
  unfold prtR
  rw [if_neg (by decide), h1, h2, h4, h5, h3, e1, e2]
  rfl
theorem exScale : sclR 1000 2 3 = (667, 0) := by decide +kernel
theorem exDistE : dstE (-100) [1, 1, 1] = 0 := by decide +kernel
theorem exDist : dstL (-100) (sm [1, 1, 1]) [1, 1, 1] = [-34, -33, -33] := by decide +kernel
theorem exSum : sumR [1500, -200] = (1300, 0) := by decide +kernel
theorem exBad1 : badR 1000 2000 = 12 := by decide +kernel
theorem exBad2 : badR (-2000) 1000 = 800 := by decide +kernel
set_option maxRecDepth 100000 in
set_option maxHeartbeats 4000000 in
theorem awake02_sat (w : World) (hm : MxL w) (ht : TbL w) : SatV Tryd.prog 10 [] w (.bool true) := by
  have cP := fun w1 (hb : Below w.heap.size w w1) => Parse_sat [49, 50, 46, 53, 112, 116] w1 (hm.below hb)
  have cQ := fun w1 (hb : Below w.heap.size w w1) => Print_sat (-250) w1 (ht.below hb) (by decide) (by decide)
  have cS := fun w1 => Scale_sat 1000 2 3 w1 (by decide)
  have cB1 := fun w1 => Badness_sat 1000 2000 w1 (by decide) (by decide)
  have cB2 := fun w1 => Badness_sat (-2000) 1000 w1 (by decide) (by decide)
  rw [exParse] at cP
  rw [exPrint] at cQ
  rw [exScale] at cS
  rw [exBad1] at cB1
  rw [exBad2] at cB2
  refine SatL.of 73 [0] Tryd.func10 (by kernel_rfl) (by kernel_rfl) rfl rfl rfl rfl ?_
  repeat' (first|(apply OK_seq)|(apply thenQ_n)|(apply OK_region)|(apply OKx_gc 11;exact rfl; refine OKx_callV (f := 11) rfl rfl rfl (fun w1 hp => cP w1 hp.below) ?_)|(apply OKx_gc 13;exact rfl; refine OKx_callV (f := 13) rfl rfl rfl (fun w1 hp => cQ w1 hp.below) ?_)|(apply OKx_gc 20;exact rfl; refine OKx_callV (f := 20) rfl rfl rfl (fun w1 hp => cS w1) ?_)|(apply OKx_gc 22;exact rfl; refine OKx_call (f := 22) rfl rfl (fun w1 hp => Distribute_sat _ (-100) [1, 1, 1] w1 (hp.ints 0 rfl (by decide))) ?_; rintro _ _ (⟨h0, _⟩ | ⟨_, na, nc, rfl, rfl⟩) <;> first | exact absurd exDistE h0 | (rw [exDist]; rw [List.cons_append, List.nil_append]))|(apply OKx_gc 18;exact rfl; refine OKx_callV (f := 18) (v := .tuple #[.int .i64 1300, .int .i64 0]) rfl rfl rfl (fun w1 hp => by have := Sum_sat _ [1500, -200] w1 (hp.ints 0 rfl (by decide)); rwa [exSum] at this) ?_)|(apply OKx_gn; apply OKx_seql;exact rfl;exact rfl; all_goals (intro hs; first | (exfalso; exact hs rfl) | skip))|(apply OKx_gb; refine OKx_max5 (r := 0) rfl rfl rfl rfl rfl (by decide) ?_)|(apply OKx_gc 24;exact rfl; refine OKx_callV (f := 24) (v := .bool true) rfl rfl rfl (fun w1 hp => equalT_sat _ _ [-34, -33, -33] [-34, -33, -33] w1 (hp.ints 2 rfl (by decide)) (hp.ints 0 rfl (by decide)) rfl) ?_)|(apply OKx_gc 25;exact rfl; refine OKx_callV (f := 25) rfl rfl rfl (fun w1 hp => cB1 w1) ?_)|(apply OKx_gc 25;exact rfl; refine OKx_callV (f := 25) rfl rfl rfl (fun w1 hp => cB2 w1) ?_)|(apply OKx_gc 15;exact rfl; refine OKx_callV (f := 15) (v := .int .i64 2) rfl rfl rfl (fun w1 hp => chk_sat 2147483648 w1) ?_)|(apply OKx_nilK)|(apply OK_block)|(apply blockQ_n)|(apply blockQ_s)|(apply thenQ_e)|(apply blockQ_e;exact rfl)|(apply thenQ_r)|(apply blockQ_r)|(apply OK_condT;exact rfl)|(apply OK_condF;exact rfl)|(apply OK_skip)|(apply OK_exit)|(apply OK_ret)|(apply OKx_move;(conv=>lhs;whnf)<;>exact rfl)|(apply OKx_assign;(conv=>lhs;whnf)<;>exact rfl)|(apply OKx_eql;exact rfl;exact rfl;all_goals (intro _; try (exfalso;omega)))|(apply OKx_seql;exact rfl;exact rfl; all_goals intro _)|(apply OKx_max;exact rfl;exact rfl)|(apply OKx_pickT;exact rfl;(conv=>lhs;whnf)<;>exact rfl)|(apply OKx_pickF;exact rfl;(conv=>lhs;whnf)<;>exact rfl)|(apply OKx_guardT;exact rfl;exact rfl)|(apply OKx_guardF;exact rfl;exact rfl)|(apply OKx_guardU;exact rfl;exact rfl)|(apply OKx_extract;exact rfl;(conv=>lhs;whnf)<;>exact rfl)|(apply OKx_slit3;(conv=>lhs;whnf)<;>exact rfl;(conv=>lhs;whnf)<;>exact rfl;(conv=>lhs;whnf)<;>exact rfl;exact rfl;exact rfl;exact rfl;intro _)|(apply OKx_slit2;(conv=>lhs;whnf)<;>exact rfl;(conv=>lhs;whnf)<;>exact rfl;exact rfl;exact rfl;intro _))
  refine bodyQ_r1 (by ((conv=>lhs;whnf)<;>exact rfl)) ?_
  exact ⟨_, Ent.nil, rfl, rfl⟩
end Go.Proofs.YtkimmlhcaanfjaaDoor
namespace Go.Proofs.YtkimmlhcaanfjaaDoor
open Go.RowKit
theorem uq2 {d q q' X : Int} (hd : 1 ≤ d) (h1 : 2 * (d * q) ≤ X) (h2 : X < 2 * (d * q) + 2 * d) (h3 : 2 * (d * q') ≤ X) (h4 : X < 2 * (d * q') + 2 * d) : q = q' := by
  by_cases hlt : q < q'
  · have := Int.mul_le_mul_of_nonneg_left (show q + 1 ≤ q' by omega) (show 0 ≤ d by omega)
    rw [Int.mul_add] at this;omega
  · by_cases hgt : q' < q
    · have := Int.mul_le_mul_of_nonneg_left (show q' + 1 ≤ q by omega) (show 0 ≤ d by omega)
      rw [Int.mul_add] at this;omega
    · omega
theorem sclQ_ref (n num den : Int) (hn : 0 ≤ num) (hd : 1 ≤ den) : sclQ n num den = if den ≤ 2 * (absI n * num % den) then absI n * num / den + 1 else absI n * num / den := by
  obtain ⟨_, h1, h2⟩ := sclQ_facts n num den hn hd
  have g1 := Int.mul_ediv_add_emod (absI n * num) den
  have g2 := Int.emod_nonneg (absI n * num) (by omega : den ≠ 0)
  have g3 := Int.emod_lt_of_pos (absI n * num) (by omega : 0 < den)
  refine uq2 hd h1 h2 ?_ ?_
  · split
    · rw [Int.mul_add];omega
    · omega
  · split
    · rw [Int.mul_add];omega
    · omega
def valB : List Int → Int
  | [] => 0
  | x :: xs => x + 1073741824 * valB xs
def tmsL (n : Int) : List Int → Int → List Int
  | [], c => [c]
  | x :: xs, c => (x * n + c) % 1073741824 :: tmsL n xs ((x * n + c) / 1073741824)
def nrm : List Int → Prop
  | [] => True
  | [_] => True
  | x :: y :: xs => 0 ≤ x ∧ x < 1073741824 ∧ nrm (y :: xs)
theorem valB_tms (n : Int) (l : List Int) : ∀ c, valB (tmsL n l c) = valB l * n + c := by
  induction l with
  | nil => intro c; simp [tmsL, valB]
  | cons x xs ih =>
    intro c
    rw [tmsL, valB, ih, valB, Int.add_mul, Int.mul_assoc]
    generalize valB xs * n = a
    generalize x * n = b
    omega
theorem tms_len (n : Int) (l : List Int) : ∀ c, (tmsL n l c).length = l.length + 1 := by
  induction l with
  | nil => intro c; rfl
  | cons x xs ih => intro c; rw [tmsL, List.length_cons, ih, List.length_cons]
theorem nrm_tms (n : Int) (l : List Int) : ∀ c, nrm (tmsL n l c) := by
  induction l with
  | nil => intro c; trivial
  | cons x xs ih =>
    intro c
    have h := ih ((x * n + c) / 1073741824)
    rw [tmsL]
    have hl := tms_len n xs ((x * n + c) / 1073741824)
    cases ht : tmsL n xs ((x * n + c) / 1073741824) with
    | nil => rw [ht] at hl; simp at hl
    | cons y ys =>
      rw [ht] at h
      exact ⟨by omega, by omega, h⟩
theorem tms_carry {x n c B : Int} (hx : 0 ≤ x) (hxB : x ≤ B) (hB : B ≤ 2000000000) (hn : 0 ≤ n) (hn1 : n ≤ 1073741824) (hc : 0 ≤ c) (hcB : c ≤ B + 1) : 0 ≤ x * n ∧ x * n ≤ 4611686018427387904 ∧ 0 ≤ (x * n + c) / 1073741824 ∧ (x * n + c) / 1073741824 ≤ B + 1 := by
  have h1 := Int.mul_nonneg hx hn
  have h2 : x * n ≤ B * 1073741824 := Int.mul_le_mul hxB hn1 hn (by omega)
  omega
theorem tms_rng (n B : Int) (hn : 0 ≤ n) (hn1 : n ≤ 1073741824) (hB : B ≤ 2000000000) (hB2 : 1073741824 ≤ B) (l : List Int) : ∀ c, 0 ≤ c → c ≤ B + 1 → (∀ x ∈ l, 0 ≤ x ∧ x ≤ B) → ∀ x ∈ tmsL n l c, 0 ≤ x ∧ x ≤ B + 1 := by
  induction l with
  | nil =>
    intro c h0 h1 _ x hx
    rw [tmsL, List.mem_singleton] at hx
    omega
  | cons y ys ih =>
    intro c h0 h1 hl x hx
    have hy := hl y List.mem_cons_self
    obtain ⟨_, _, h4, h5⟩ := tms_carry hy.1 hy.2 hB hn hn1 h0 h1
    rw [tmsL] at hx
    rcases List.mem_cons.1 hx with rfl | hx
    · omega
    · exact ih _ h4 h5 (fun z hz => hl z (List.mem_cons_of_mem _ hz)) x hx
def cmpT : List Int → List Int → Option Bool
  | x :: xs, y :: ys => match cmpT xs ys with
    | some b => some b
    | none => if x = y then none else some (decide (x < y))
  | _, _ => none
def mostB (a b : List Int) : Bool := (cmpT a b).getD true
theorem cmpT_val : ∀ (a b : List Int), a.length = b.length → nrm a → nrm b → (cmpT a b = none → valB a = valB b) ∧ (cmpT a b = some true → valB a < valB b) ∧ (cmpT a b = some false → valB b < valB a)
  | [], [], _, _, _ => ⟨fun _ => rfl, fun h => (by cases h), fun h => (by cases h)⟩
  | [x], [y], _, _, _ => by
    have e : cmpT [x] [y] = if x = y then none else some (decide (x < y)) := rfl
    have ex : valB [x] = x := by simp [valB]
    have ey : valB [y] = y := by simp [valB]
    rw [e, ex, ey]
    by_cases h : x = y
    · rw [if_pos h]; simp [h]
    · rw [if_neg h]
      by_cases h2 : x < y
      · simp [h2]
      · simp [h2];omega
  | x :: x' :: xs, y :: y' :: ys, hl, ha, hb => by
    obtain ⟨i1, i2, i3⟩ := cmpT_val (x' :: xs) (y' :: ys) (by simpa using hl) ha.2.2 hb.2.2
    have hx := ha.1
    have hx' := ha.2.1
    have hy := hb.1
    have hy' := hb.2.1
    have e : cmpT (x :: x' :: xs) (y :: y' :: ys) = (match cmpT (x' :: xs) (y' :: ys) with
      | some b => some b
      | none => if x = y then none else some (decide (x < y))) := by rw [cmpT]
    have ea : valB (x :: x' :: xs) = x + 1073741824 * valB (x' :: xs) := by rw [valB]
    have eb : valB (y :: y' :: ys) = y + 1073741824 * valB (y' :: ys) := by rw [valB]
    rw [e, ea, eb]
    cases hc : cmpT (x' :: xs) (y' :: ys) with
    | some b =>
      cases b with
      | true =>
        have := i2 hc
        simp only []
        refine ⟨fun h => (by cases h), fun _ => (by omega), fun h => (by cases h)⟩
      | false =>
        have := i3 hc
        simp only []
        refine ⟨fun h => (by cases h), fun h => (by cases h), fun _ => (by omega)⟩
    | none =>
      have := i1 hc
      simp only []
      by_cases h : x = y
      · rw [if_pos h]
        exact ⟨fun _ => (by omega), fun h => (by cases h), fun h => (by cases h)⟩
      · rw [if_neg h]
        by_cases h2 : x < y
        · rw [decide_eq_true h2]
          exact ⟨fun h => (by cases h), fun _ => (by omega), fun h => (by cases h)⟩
        · rw [decide_eq_false h2]
          exact ⟨fun h => (by cases h), fun h => (by cases h), fun _ => (by omega)⟩
theorem mostB_val (a b : List Int) (hl : a.length = b.length) (ha : nrm a) (hb : nrm b) : mostB a b = decide (valB a ≤ valB b) := by
  obtain ⟨h1, h2, h3⟩ := cmpT_val a b hl ha hb
  unfold mostB
  cases hc : cmpT a b with
  | none => have := h1 hc; exact (decide_eq_true (by omega)).symm
  | some r =>
    cases r with
    | true => have := h2 hc; exact (decide_eq_true (by omega)).symm
    | false => have := h3 hc; exact (decide_eq_false (by omega)).symm
theorem cmpT_step : ∀ (a b : List Int) (i : Nat), i < a.length → i < b.length → cmpT (a.drop i) (b.drop i) = match cmpT (a.drop (i + 1)) (b.drop (i + 1)) with
      | some r => some r
      | none => if a.getD i 0 = b.getD i 0 then none else some (decide (a.getD i 0 < b.getD i 0)) := by
  intro a b i ha hb
  rw [List.drop_eq_getElem_cons ha, List.drop_eq_getElem_cons hb, cmpT]
  simp [List.getD_eq_getElem?_getD, List.getElem?_eq_getElem ha, List.getElem?_eq_getElem hb]
theorem cmpT_drop (a b : List Int) (r : Bool) : ∀ i, i ≤ a.length → i ≤ b.length → cmpT (a.drop i) (b.drop i) = some r → cmpT a b = some r
  | 0, _, _, h => by simpa using h
  | i + 1, ha, hb, h => by
    refine cmpT_drop a b r i (by omega) (by omega) ?_
    rw [cmpT_step a b i (by omega) (by omega), h]
theorem mul3 (a : Nat) : (a : Int) * a * a = ((a ^ 3 : Nat) : Int) := by
  have e : a ^ 3 = a * a * a := by rw [Nat.pow_succ, Nat.pow_succ, Nat.pow_one]
  rw [e, Int.natCast_mul, Int.natCast_mul]
theorem ask_le (c t m : Nat) (ht : 0 < t) (hm : m ≤ 10000) : ((t : Int) * t * t * m ≤ (c : Int) * c * c * 100) ↔ m ≤ bN c t := by
  rw [mul3, mul3, ← Int.natCast_mul]
  have e : ((c ^ 3 : Nat) : Int) * 100 = ((100 * c ^ 3 : Nat) : Int) := by omega
  rw [e, Int.ofNat_le]
  unfold bN
  have hp : 0 < t ^ 3 := Nat.pow_pos ht
  have h := Nat.le_div_iff_mul_le (x := m) (y := 100 * c ^ 3) hp
  rw [Nat.mul_comm m] at h
  constructor
  · intro hh
    have := h.2 hh
    omega
  · intro hh
    exact h.1 (by omega)
end Go.Proofs.YtkimmlhcaanfjaaDoor
