/-
  Part 7 of the proof: Pb07, Mx, Gu, Fe07, Spl. No statement of the seat is proved here.
-/
import Derived.Test.YthnlnffmmioapaaGreatDoorMHCl276
import Derived.Lib.IndexBytes
import Derived.Lib.IndexLaws
import Derived.Lib.CutLaws
import Derived.Lib.SplitLaws
namespace Go.Proofs.YthnlnffmmioapaaGreatDoor
open Go.RowKit
def clsM : List Elc → Nat → Nat
  | [], i => 2 ^ i
  | none :: l, i => 2 ^ i ||| clsM l (i + 1)
  | some _ :: _, i => 2 ^ i
theorem testBit_clsM : ∀ (l : List Elc) (i j : Nat), (clsM l i).testBit j = true ↔ i ≤ j ∧ j ≤ i + l.length ∧ ∀ k, i ≤ k → k < j → l[k - i]? = some none
  | [], i, j => by
    rw [clsM, Nat.testBit_two_pow, decide_eq_true_eq]
    constructor
    · rintro rfl; exact ⟨Nat.le_refl _, by simp, fun k h1 h2 => absurd h1 (by omega)⟩
    · rintro ⟨h1, h2, _⟩; simp at h2;omega
  | some f :: l, i, j => by
    rw [clsM, Nat.testBit_two_pow, decide_eq_true_eq]
    constructor
    · rintro rfl; exact ⟨Nat.le_refl _, by simp, fun k h1 h2 => absurd h1 (by omega)⟩
    · rintro ⟨h1, h2, h3⟩
      by_cases h : i = j
      · exact h
      · have := h3 i (Nat.le_refl _) (by omega)
        rw [Nat.sub_self] at this
        simp at this
  | none :: l, i, j => by
    rw [clsM, Nat.testBit_or, Nat.testBit_two_pow, Bool.or_eq_true, decide_eq_true_eq, testBit_clsM l (i + 1) j, List.length_cons]
    constructor
    · rintro (rfl | ⟨h1, h2, h3⟩)
      · exact ⟨Nat.le_refl _, by omega, fun k h1 h2 => absurd h1 (by omega)⟩
      · refine ⟨by omega, by omega, fun k a b => ?_⟩
        by_cases hk : k = i
        · rw [hk, Nat.sub_self]; rfl
        · have := h3 k (by omega) b
          rw [show k - i = (k - (i + 1)) + 1 by omega]
          exact this
    · rintro ⟨h1, h2, h3⟩
      by_cases h : i = j
      · exact .inl h
      · refine .inr ⟨by omega, by omega, fun k a b => ?_⟩
        have := h3 k (by omega) b
        rw [show k - i = (k - (i + 1)) + 1 by omega] at this
        exact this
theorem clsM_clsP (l : List Elc) (i j : Nat) (hi : i ≤ l.length) : (clsM (l.drop i) i).testBit j = true ↔ clsP l i j := by
  rw [testBit_clsM, List.length_drop]
  unfold clsP anyA
  constructor
  · rintro ⟨h1, h2, h3⟩
    refine ⟨h1, by omega, fun k a b => ?_⟩
    have := h3 k a b
    rw [List.getElem?_drop, show i + (k - i) = k by omega] at this
    exact this
  · rintro ⟨h1, h2, h3⟩
    refine ⟨h1, by omega, fun k a b => ?_⟩
    rw [List.getElem?_drop, show i + (k - i) = k by omega]
    exact h3 k a b
def nxtE (l : List Elc) (m : Nat) (c : UInt8) (out i : Nat) : Nat :=
  if m.testBit i = true then (match l[i]? with
    | some none => out ||| clsM (l.drop i) i
    | some (some f) => if f c = true then out ||| clsM (l.drop (i + 1)) (i + 1) else out
    | none => out) else out
def nxtK (l : List Elc) (m : Nat) (c : UInt8) (k : Nat) : Nat := (List.range k).foldl (nxtE l m c) 0
def nxtM (l : List Elc) (m : Nat) (c : UInt8) : Nat := nxtK l m c l.length
theorem nxtK_succ (l : List Elc) (m : Nat) (c : UInt8) (k : Nat) : nxtK l m c (k + 1) = nxtE l m c (nxtK l m c k) k := by
  unfold nxtK
  rw [List.range_succ, List.foldl_append]
  rfl
theorem testBit_nxtK (l : List Elc) (m : Nat) (c : UInt8) (j : Nat) : ∀ k, k ≤ l.length → ((nxtK l m c k).testBit j = true ↔ ∃ i, i < k ∧ m.testBit i = true ∧ ((anyA l i ∧ clsP l i j) ∨ (setA l i c ∧ clsP l (i + 1) j)))
  | 0, _ => by
    constructor
    · intro h; simp [nxtK] at h
    · rintro ⟨i, h, _⟩;omega
  | k + 1, hk => by
    have ih := testBit_nxtK l m c j k (by omega)
    rw [nxtK_succ]
    have hx : l[k]? = some l[k] := List.getElem?_eq_getElem (by omega)
    unfold nxtE
    by_cases hm : m.testBit k = true
    · rw [if_pos hm, hx]
      cases hxx : l[k] with
      | none =>
        rw [hxx] at hx
        dsimp only
        rw [Nat.testBit_or, Bool.or_eq_true, ih, clsM_clsP l k j (by omega)]
        constructor
        · rintro (⟨i, h1, h2⟩ | h)
          · exact ⟨i, by omega, h2⟩
          · exact ⟨k, by omega, hm, .inl ⟨hx, h⟩⟩
        · rintro ⟨i, h1, h2, h3⟩
          by_cases hik : i = k
          · subst hik
            rcases h3 with ⟨_, h4⟩ | ⟨⟨f, hf, _⟩, _⟩
            · exact .inr h4
            · rw [hx] at hf; cases hf
          · exact .inl ⟨i, by omega, h2, h3⟩
      | some f =>
        rw [hxx] at hx
        dsimp only
        by_cases hf : f c = true
        · rw [if_pos hf, Nat.testBit_or, Bool.or_eq_true, ih, clsM_clsP l (k + 1) j hk]
          constructor
          · rintro (⟨i, h1, h2⟩ | h)
            · exact ⟨i, by omega, h2⟩
            · exact ⟨k, by omega, hm, .inr ⟨⟨f, hx, hf⟩, h⟩⟩
          · rintro ⟨i, h1, h2, h3⟩
            by_cases hik : i = k
            · subst hik
              rcases h3 with ⟨h4, _⟩ | ⟨_, h4⟩
              · unfold anyA at h4; rw [hx] at h4; cases h4
              · exact .inr h4
            · exact .inl ⟨i, by omega, h2, h3⟩
        · rw [if_neg hf, ih]
          constructor
          · rintro ⟨i, h1, h2⟩; exact ⟨i, by omega, h2⟩
          · rintro ⟨i, h1, h2, h3⟩
            by_cases hik : i = k
            · subst hik
              rcases h3 with ⟨h4, _⟩ | ⟨⟨g, hg, hgc⟩, _⟩
              · unfold anyA at h4; rw [hx] at h4; cases h4
              · rw [hx] at hg; cases hg; exact absurd hgc hf
            · exact ⟨i, by omega, h2, h3⟩
    · rw [if_neg hm, ih]
      constructor
      · rintro ⟨i, h1, h2⟩; exact ⟨i, by omega, h2⟩
      · rintro ⟨i, h1, h2, h3⟩
        by_cases hik : i = k
        · subst hik; exact absurd h2 hm
        · exact ⟨i, by omega, h2, h3⟩
def runM (l : List Elc) (w : List UInt8) : Nat := w.foldl (nxtM l) (clsM l 0)
theorem runM_snoc (l : List Elc) (w : List UInt8) (c : UInt8) : runM l (w ++ [c]) = nxtM l (runM l w) c := by simp [runM]
theorem snocInd7 {α : Type} {p : List α → Prop} (h0 : p []) (hs : ∀ l a, p l → p (l ++ [a])) (l : List α) : p l := by
  have key : ∀ l : List α, p l.reverse := by
    intro l
    induction l with
    | nil => exact h0
    | cons a l ih => rw [List.reverse_cons]; exact hs _ _ ih
  have := key l.reverse
  rwa [List.reverse_reverse] at this
theorem testBit_runM (l : List Elc) (w : List UInt8) : ∀ j, (runM l w).testBit j = true ↔ stP l w j := by
  induction w using snocInd7 with
  | h0 =>
    intro j
    rw [stP_start]
    have := clsM_clsP l 0 j (Nat.zero_le _)
    rw [List.drop_zero] at this
    exact this
  | hs w c ih =>
    intro j
    rw [runM_snoc, stP_next]
    unfold nxtM
    rw [testBit_nxtK l _ c j l.length (Nat.le_refl _)]
    unfold nxtP
    constructor
    · rintro ⟨i, h1, h2, h3⟩; exact ⟨i, h1, (ih i).1 h2, h3⟩
    · rintro ⟨i, h1, h2, h3⟩; exact ⟨i, h1, (ih i).2 h2, h3⟩
def mtB (l : List Elc) (w : List UInt8) : Bool := (runM l w).testBit l.length
theorem mtB_iff (l : List Elc) (w : List UInt8) : mtB l w = true ↔ Mt l w := by
  unfold mtB
  rw [testBit_runM, stP_end]
theorem lt_of_bits {a n : Nat} (h : ∀ j, a.testBit j = true → j ≤ n) : a < 2 ^ (n + 1) := by
  apply Nat.lt_of_not_le
  intro hle
  obtain ⟨j, hj1, hj2⟩ := Nat.exists_ge_and_testBit_of_ge_two_pow hle
  have := h j hj2
  omega
theorem nxtK_lt (l : List Elc) (m : Nat) (c : UInt8) (k : Nat) (hk : k ≤ l.length) : nxtK l m c k < 2 ^ (l.length + 1) :=
  lt_of_bits fun j h => by
    obtain ⟨i, _, _, ⟨_, h⟩ | ⟨_, h⟩⟩ := (testBit_nxtK l m c j k hk).1 h <;> exact h.2.1
theorem runM_lt (l : List Elc) (w : List UInt8) : runM l w < 2 ^ (l.length + 1) :=
  lt_of_bits fun j h => ((testBit_runM l w j).1 h).1
end Go.Proofs.YthnlnffmmioapaaGreatDoor
namespace Go.Proofs.YthnlnffmmioapaaGreatDoor
open Go.RowKit
section
variable {P : Program} {ops : Array Oper} {Q : Exit → Act → World → Prop}
def cls2 (T0 T2 : List Nat) (wf : World) (Cw : World → Prop) (listed : Array Bool) (w : World) : Prop := (started T0 listed = false → w = wf) ∧ (started T2 listed = false → Cw w)
theorem started_hit {T : List Nat} {i : Nat} {listed : Array Bool} (hi : i ∈ T) (hr : i ∈ Region.ready .any ops listed) : started T (listed.setIfInBounds i true) = true := by
  unfold started
  rw [List.any_eq_true]
  refine ⟨i, hi, ?_⟩
  have hlt : i < listed.size := by
    have h0 := (mem_ready.1 hr).1
    rcases Nat.lt_or_ge i listed.size with h' | h'
    · exact h'
    · simp [Array.getElem?_eq_none h'] at h0
  simp [hlt]
theorem anyC_seqB {wf : World} {Cw : World → Prop} (T0 T2 : List Nat) : ∀ (T : List Nat) (lo : List Oper) (listed : Array Bool) (a : Act) (w : World), T.map (fun t => ops[t]?) = lo.map some → (∀ t ∈ T, t ∈ T0 ∧ t ∈ T2) → seqLB ops T listed = true → (started T0 listed = false → w = wf) → (started T2 listed = false → Cw w) → wpListC P ops (fun _ => True) Q lo a w →
    anyC P ops (cls2 T0 T2 wf Cw) Q T.length listed a w
  | [], lo, listed, a, w, hm, _, hB, hs, hs2, h => by
    obtain rfl : lo = [] := by simpa using hm.symm
    exact ⟨⟨hs, hs2⟩, by simpa [seqLB] using hB, h.2⟩
  | t :: T, lo, listed, a, w, hm, hT, hB, hs, hs2, h => by
    cases lo with
    | nil => simp at hm
    | cons o lo =>
      simp only [List.map_cons, List.cons.injEq] at hm
      obtain ⟨h0, hm⟩ := hm
      simp only [seqLB, Bool.and_eq_true, decide_eq_true_eq] at hB
      obtain ⟨_, h⟩ := h
      refine ⟨⟨hs, hs2⟩, fun h1 => (by rw [hB.1] at h1; cases h1), fun i hi => ?_⟩
      have hir := hi
      rw [hB.1] at hi
      have hit : i = t := by simpa using hi
      subst hit
      have hstart : started T0 (listed.setIfInBounds i true) = true := started_hit (hT i (by simp)).1 hir
      have hstart2 : started T2 (listed.setIfInBounds i true) = true := started_hit (hT i (by simp)).2 hir
      unfold wpOp
      simp only [h0]
      have next : ∀ a w, wpListC P ops (fun _ => True) Q lo a w → anyC P ops (cls2 T0 T2 wf Cw) Q T.length (listed.setIfInBounds i true) a w := fun a w h =>
        anyC_seqB T0 T2 T lo _ a w hm (fun t ht => hT t (by simp [ht])) hB.2 (fun h1 => by rw [hstart] at h1; cases h1) (fun h1 => by rw [hstart2] at h1; cases h1) h
      split
      · rename_i hw
        rw [if_pos hw] at h
        exact .inl (Oper.wp_mono next h)
      · rename_i hw
        rw [if_neg hw] at h
        exact next _ _ h
theorem anyC_seqA {wf : World} {Cw : World → Prop} {Qm : Exit → Act → World → Prop} (hQm : ∀ c a w, ¬ Qm (.panic c) a w) (hQo : ¬ LetsOut Qm) (anyQ : ∀ {o : Oper} {a : Act} {w : World} {K : Act → World → Prop}, o.wp P a w K Qm → o.wp P a w K Q) (T0 T2 : List Nat) (l2 : List Oper) (hm2 : T2.map (fun t => ops[t]?) = l2.map some) (hq : ∀ a w, Qm .normal a w → wpListC P ops (fun _ => True) Q l2 a w) (h20 : ∀ t ∈ T2, t ∈ T0) :
    ∀ (T : List Nat) (lo : List Oper) (listed : Array Bool) (a : Act) (w : World), T.map (fun t => ops[t]?) = lo.map some → (∀ t ∈ T, t ∈ T0) → seqLB ops (T ++ T2) listed = true → (started T0 listed = false → w = wf) → wpListC P ops Cw Qm lo a w →
    anyC P ops (cls2 T0 T2 wf Cw) Q (T ++ T2).length listed a w
  | [], lo, listed, a, w, hm, _, hB, hs, h => by
    obtain rfl : lo = [] := by simpa using hm.symm
    exact anyC_seqB T0 T2 T2 l2 listed a w hm2 (fun t ht => ⟨h20 t ht, ht⟩) hB hs (fun _ => h.1) (hq _ _ h.2)
  | t :: T, lo, listed, a, w, hm, hT, hB, hs, h => by
    cases lo with
    | nil => simp at hm
    | cons o lo =>
      simp only [List.map_cons, List.cons.injEq] at hm
      obtain ⟨h0, hm⟩ := hm
      simp only [List.cons_append, seqLB, Bool.and_eq_true, decide_eq_true_eq] at hB
      obtain ⟨hcw, h⟩ := h
      refine ⟨⟨hs, fun _ => hcw⟩, fun h1 => (by rw [hB.1] at h1; cases h1), fun i hi => ?_⟩
      have hir := hi
      rw [hB.1] at hi
      have hit : i = t := by simpa using hi
      subst hit
      have hstart : started T0 (listed.setIfInBounds i true) = true := started_hit (hT i (by simp)) hir
      unfold wpOp
      simp only [h0]
      have next : ∀ a w, wpListC P ops Cw Qm lo a w → anyC P ops (cls2 T0 T2 wf Cw) Q (T ++ T2).length (listed.setIfInBounds i true) a w := fun a w h =>
        anyC_seqA hQm hQo anyQ T0 T2 l2 hm2 hq h20 T lo _ a w hm (fun t ht => hT t (by simp [ht])) hB.2 (fun h1 => by rw [hstart] at h1; cases h1) h
      split
      · rename_i hw
        rw [if_pos hw] at h
        exact .inl (Oper.wp_mono next (anyQ h))
      · rename_i hw
        rw [if_neg hw] at h
        exact next _ _ h
def chainLB2 (T T2 : List Nat) : List (Nat × Bool) → Array Bool → Bool
  | [], listed => seqLB ops T listed
  | (i, t1) :: E, listed => stepB ops T listed i && (cond t1 (T.all fun t => memN t (waiters ops i)) (T2.all fun t => memN t (waiters ops i))) && chainLB2 T T2 E (listed.setIfInBounds i true)
theorem started_none {T : List Nat} {i : Nat} {listed : Array Bool} (hall : T.all (fun t => memN t (waiters ops i)) = true) (hW : ∀ j ∈ waiters ops i, listed.getD j true = false) : started T listed = false := by
  unfold started
  rw [List.any_eq_false]
  intro t ht hb
  have h1 := hW t ((memN_iff _ _).1 (List.all_eq_true.1 hall t ht))
  rcases Nat.lt_or_ge t listed.size with h' | h'
  · simp [h'] at h1 hb; rw [h1] at hb; cases hb
  · simp [Array.getElem?_eq_none h'] at hb
theorem anyC_early2 {wf : World} {Cw : World → Prop} {Kf : Act → Prop} (T T2 : List Nat) (h20 : ∀ t ∈ T2, t ∈ T) (fin : ∀ listed a, seqLB ops T listed = true → Kf a → anyC P ops (cls2 T T2 wf Cw) Q T.length listed a wf) (hsel : Region.noSelect ops = true) (hQ : ∀ c a w, ¬ Q (.panic c) a w) :
    ∀ (E : List (Nat × Bool)) (listed : Array Bool) (a : Act), chainLB2 (ops := ops) T T2 E listed = true → started T listed = false → wpEarly P ops wf Cw Kf E a →
    anyC P ops (cls2 T T2 wf Cw) Q (E.length + T.length) listed a wf
  | [], listed, a, hB, hs, h => by
    rw [List.length_nil, Nat.zero_add]
    exact fin listed a hB h
  | (i, t1) :: E, listed, a, hB, hs, h => by
    simp only [chainLB2, stepB, Bool.and_eq_true, Bool.not_eq_true'] at hB
    obtain ⟨⟨⟨⟨⟨hr, hf⟩, hiT⟩, hW⟩, ht1⟩, hB'⟩ := hB
    obtain ⟨oi, hi, h⟩ := h
    have hr' : i ∈ Region.ready .any ops listed := by simpa using hr
    have hW' : ∀ j ∈ waiters ops i, listed.getD j true = false := fun j hj => by
      have := List.all_eq_true.1 hW j hj
      simpa using this
    have hiT2 : memN i T2 = false := by
      cases hm : memN i T2 with
      | false => rfl
      | true =>
        have := (memN_iff i T).2 (h20 i ((memN_iff i T2).1 hm))
        rw [this] at hiT; cases hiT
    have hs' : started T (listed.setIfInBounds i true) = false := by rw [started_set hiT]; exact hs
    have hC : ∀ listed w, listed.getD i true = false → cls2 T T2 wf Cw (listed.setIfInBounds i true) w → cls2 T T2 wf Cw listed w := fun listed w _ h =>
      ⟨fun h1 => h.1 (by rw [started_set hiT]; exact h1), fun h1 => h.2 (by rw [started_set hiT2]; exact h1)⟩
    rw [show (List.length ((i, t1) :: E)) + T.length = (E.length + T.length) + 1 by simp;omega]
    by_cases hw : Region.wanted oi (yielded ops a.tmps) = true
    · rw [if_pos hw] at h
      obtain ⟨v, hv, hk⟩ := h
      refine anyC_first hi (Region.noSelect_spec hsel) hQ hC _ listed a wf (Region.free_spec hi hf) hr' hW' (.inl ⟨hw, fun listed' w' hiu hWu hc => ?_⟩) (anyC_early2 T T2 h20 fin hsel hQ E _ _ hB' hs' hk)
      refine hv w' ?_
      cases t1 with
      | false => simpa using hc.2 (started_none ht1 hWu)
      | true => simpa using hc.1 (started_none ht1 hWu)
    · rw [if_neg hw] at h
      exact anyC_first hi (Region.noSelect_spec hsel) hQ hC _ listed a wf (Region.free_spec hi hf) hr' hW' (.inr ⟨by simpa using hw, rfl⟩) (anyC_early2 T T2 h20 fin hsel hQ E _ _ hB' hs' h)
def mixB2 (ops : Array Oper) (A B A' T1 T2 : List Nat) : Bool :=
  Region.noSelect ops && Nat.beq (A.length + B.length + A'.length + (T1 ++ T2).length) ops.size && chainLB2 (ops := ops) (T1 ++ T2) T2 ((A.map fun i => (i, false)) ++ ((B.map fun i => (i, true)) ++ (A'.map fun i => (i, false)))) (Array.replicate ops.size false)
theorem wp_region_mix2 {id : Nat} {a : Act} {w : World} {C Cw : World → Prop} {Qm : Exit → Act → World → Prop} (A B A' T1 T2 : List Nat) (la lb la' l1 l2 : List Oper) (hm : P.follows .mixedOrders = true) (hB : mixB2 ops A B A' T1 T2 = true)
    (h1 : A.map (fun t => ops[t]?) = la.map some) (h2 : B.map (fun t => ops[t]?) = lb.map some) (h3 : A'.map (fun t => ops[t]?) = la'.map some) (h4 : T1.map (fun t => ops[t]?) = l1.map some) (h5 : T2.map (fun t => ops[t]?) = l2.map some)
    (hQ : ∀ c a w, ¬ Q (.panic c) a w) (hQm : ∀ c a w, ¬ Qm (.panic c) a w) (hQo : ¬ LetsOut Qm) (anyQ : ∀ {o : Oper} {a : Act} {w : World} {K : Act → World → Prop}, o.wp P a w K Qm → o.wp P a w K Q) (hq : ∀ a w, Qm .normal a w → wpListC P ops (fun _ => True) Q l2 a w) (hc : C w.drew) (hcw : Cw w.drew)
    (h : wpPure P ops Cw (fun a1 => wpPure P ops C (fun a2 => wpPure P ops Cw (fun a3 => wpListC P ops Cw Qm l1 a3 w.drew) la' a2) lb a1) la a) : (Code.region id ops true).wp P Q a w := by
  simp only [mixB2, Bool.and_eq_true] at hB
  obtain ⟨⟨hsel, hsz⟩, hch⟩ := hB
  have hsz' := Nat.eq_of_beq_eq_true hsz
  refine wp_region_any hm ?_
  have e := anyC_early2 (P := P) (ops := ops) (Q := Q) (wf := w.drew) (Cw := Cw) (Kf := fun a3 => wpListC P ops Cw Qm l1 a3 w.drew) (T1 ++ T2) T2 (fun t ht => List.mem_append_right _ ht)
    (fun listed a hB h => anyC_seqA hQm hQo anyQ (T1 ++ T2) T2 l2 h5 hq (fun t ht => List.mem_append_right _ ht) T1 l1 listed a _ h4 (fun t ht => List.mem_append_left _ ht) hB (fun _ => rfl) h) hsel hQ _ (Array.replicate ops.size false) a hch (by
    unfold started
    rw [List.any_eq_false]
    intro t _
    simp only [Array.getD_eq_getD_getElem?, Array.getElem?_replicate]
    split <;> simp) (by
    refine wpEarly_append _ _ a (wpEarly_of_pure false (fun w hw => by simpa using hw) A la a h1 ?_)
    have mono : ∀ {C : World → Prop} {Q1 Q2 : Act → Prop} (hq : ∀ a, Q1 a → Q2 a) (l : List Oper) (a : Act), wpPure P ops C Q1 l a → wpPure P ops C Q2 l a := by
      intro C Q1 Q2 hq l
      induction l with
      | nil => intro a h; exact hq _ h
      | cons o l ih =>
        intro a h
        unfold wpPure at h ⊢
        split
        · rename_i hw
          rw [if_pos hw] at h
          obtain ⟨v, h1, h2⟩ := h
          exact ⟨v, h1, ih _ h2⟩
        · rename_i hw
          rw [if_neg hw] at h
          exact ih _ h
    refine mono (fun a1 h => wpEarly_append _ _ a1 (wpEarly_of_pure true (fun w' hw => by simp only [if_true] at hw; subst hw; exact hc) B lb a1 h2 (mono (fun a2 h => wpEarly_of_pure false (fun w hw => by simpa using hw) A' la' a2 h3 h) lb a1 h))) la a h)
  have hlen : (List.map (fun i => (i, false)) A ++ (List.map (fun i => (i, true)) B ++ List.map (fun i => (i, false)) A')).length + (T1 ++ T2).length = ops.size := by
    simp only [List.length_append, List.length_map] at hsz' ⊢;omega
  rw [hlen] at e
  exact anyC_any _ _ _ _ e
end
theorem OK.mk' {P : Program} {n : Nat} {w0 : World} {Q : Exit → Fm → List Res → Prop} {F : Fm} {L : List Res} {c : Code} (h : ∀ w a, Fr n a F → Hp w0.heap.size w0 w L → c.wp P (lift n w0 Q) a w) : OK P n w0 Q c F L := by unfold OK; exact h
theorem OKx.useP {P : Program} {n : Nat} {w0 : World} {K : Fm → List Res → Prop} {F : Fm} {L : List Res} {ops : Array Oper} {rest : List Oper} (h : OKx P n w0 .pure ops K rest F L) : ∀ a, Fr n a F → wpPure P ops (fun w => Hp w0.heap.size w0 w L) (fun a' => ∃ F', Fr n a' F' ∧ K F' L) rest a := by unfold OKx at h; exact h
section
variable {P : Program} {n : Nat} {w0 : World} {Q : Exit → Fm → List Res → Prop} {F : Fm} {L : List Res}
theorem OK_mix2 (A B A' T1 T2 : List Nat) (Lw : List Res) {id : Nat} {l la lb la' l1 l2 : List Oper} (hm : P.follows .mixedOrders = true) (hB : mixB2 l.toArray A B A' T1 T2 = true) (hI : ((A ++ (B ++ (A' ++ (T1 ++ T2)))).all fun i => Nat.ble (i + 1) l.length) = true) (e : Ent w0 L Lw) (hA : pickO l A = la) (hB' : pickO l B = lb) (hA' : pickO l A' = la') (hT1 : pickO l T1 = l1) (hT2 : pickO l T2 = l2)
    (h : OKx P n w0 .pure l.toArray (fun F1 _ => OKx P n w0 .pure l.toArray (fun F2 _ => OKx P n w0 .pure l.toArray (fun F3 _ => OKx P n w0 (.seq Lw) l.toArray (fun F4 L4 => OKx P n w0 (.seq []) l.toArray (Q .normal) l2 F4 L4) l1 F3 L) la' F2 Lw) lb F1 L) la F Lw) : OK P n w0 Q (.region id l.toArray true) F L := by
  subst hA hB' hA' hT1 hT2
  refine OK.mk' fun w a hf hp => ?_
  simp only [List.all_append, Bool.and_eq_true] at hI
  have key := wp_region_mix2 (id := id) (P := P) (ops := l.toArray) (a := a) (w := w) (Q := liftN n w0 (Q .normal)) (Qm := liftN n w0 (fun F4 L4 => OKx P n w0 (.seq []) l.toArray (Q .normal) (pickO l T2) F4 L4)) (C := fun w => Hp w0.heap.size w0 w L) (Cw := fun w => Hp w0.heap.size w0 w Lw) A B A' T1 T2 _ _ _ _ _ hm hB (pickO_at l A hI.1) (pickO_at l B hI.2.1) (pickO_at l A' hI.2.2.1) (pickO_at l T1 hI.2.2.2.1) (pickO_at l T2 hI.2.2.2.2)
    (fun c a w h => by cases h.1) (fun c a w h => by cases h.1) (by rintro ⟨a, w, h, _⟩; cases h) (fun h => wp_anyQ (fun c a w h => by cases h.1) (by rintro ⟨a, w, h, _⟩; cases h) h) ?_ hp.drew (e.use _ hp.drew) ?_
  · refine wp_mono key ?_
    rintro e a' w' ⟨rfl, F', L', h1, h2, h3⟩
    exact ⟨F', L', h1, h2, h3⟩
  · rintro a' w' ⟨_, F', L', h1, h2, h3⟩
    have h4 := h3.use w' a' h1 h2
    have weak : ∀ (l' : List Oper) (a : Act) (w : World), wpListC P l.toArray (fun w => Hp w0.heap.size w0 w []) (liftN n w0 (Q .normal)) l' a w → wpListC P l.toArray (fun _ => True) (liftN n w0 (Q .normal)) l' a w := by
      intro l'
      induction l' with
      | nil => intro a w h; exact ⟨trivial, h.2⟩
      | cons o l' ih =>
        intro a w h
        obtain ⟨_, h⟩ := h
        refine ⟨trivial, ?_⟩
        split
        · rename_i hw
          rw [if_pos hw] at h
          exact Oper.wp_mono (fun a w h => ih a w h) h
        · rename_i hw
          rw [if_neg hw] at h
          exact ih _ _ h
    exact weak _ _ _ h4
  · have mono : ∀ {C : World → Prop} {Q1 Q2 : Act → Prop} (hq : ∀ a, Q1 a → Q2 a) (l' : List Oper) (a : Act), wpPure P l.toArray C Q1 l' a → wpPure P l.toArray C Q2 l' a := by
      intro C Q1 Q2 hq l'
      induction l' with
      | nil => intro a h; exact hq _ h
      | cons o l' ih =>
        intro a h
        unfold wpPure at h ⊢
        split
        · rename_i hw
          rw [if_pos hw] at h
          obtain ⟨v, h1, h2⟩ := h
          exact ⟨v, h1, ih _ h2⟩
        · rename_i hw
          rw [if_neg hw] at h
          exact ih _ h
    refine mono ?_ _ a (h.useP a hf)
    rintro a1 ⟨F1, hf1, h⟩
    refine mono ?_ _ a1 (h.useP a1 hf1)
    rintro a2 ⟨F2, hf2, h⟩
    refine mono ?_ _ a2 (h.useP a2 hf2)
    rintro a3 ⟨F3, hf3, h⟩
    exact h.use _ a3 hf3 hp.drew
end
end Go.Proofs.YthnlnffmmioapaaGreatDoor
namespace Go.Proofs.YthnlnffmmioapaaGreatDoor
open Go.RowKit
theorem Fr.yieldU {n : Nat} {F : Fm} {ops : Array Oper} {a : Act} (hf : Fr n a F) {j t : Nat} (hj : (ops[j]?).bind (·.dst) = some t) (hb : rv n F (.tmp t) = undef) : yielded ops a.tmps j = none := by
  have he := hf.eval
  have h1 : a.eval (.tmp t) = undef := by rw [he]; exact hb
  unfold yielded
  rw [hj]
  simp only [Option.bind_some]
  simp only [Act.eval, Frame.eval] at h1
  split
  · rename_i b h2
    simp [h2, undef] at h1
  · rfl
theorem OKx_guardU {P : Program} {n : Nat} {w0 : World} {K : Fm → List Res → Prop} {F : Fm} {L : List Res} {m : Md} {ops : Array Oper} {rest : List Oper} {d : Option Nat} {o : Op} {ty : TypeId} {pos : String} {aft : Array Edge} {j t : Nat} {b : Bool} (hj : (ops[j]?).bind (·.dst) = some t) (hb : rv n F (.tmp t) = undef)
    (h : OKx P n w0 m ops K rest (updo F d undef) L) : OKx P n w0 m ops K (⟨d, o, ty, pos, aft, some (j, b)⟩ :: rest) F L := by
  have key : ∀ a : Act, Fr n a F → Region.wanted (⟨d, o, ty, pos, aft, some (j, b)⟩ : Oper) (yielded ops a.tmps) = false := by
    intro a hf
    simp only [Region.wanted, Fr.yieldU hf hj hb]
    cases b <;> rfl
  unfold OKx at h ⊢
  cases m with
  | seq Lw =>
    intro w a hf hp
    have h1 := h w _ (hf.put d undef) hp
    refine ⟨h1.cls, ?_⟩
    rw [key a hf]
    exact h1
  | quiet =>
    intro a hf
    unfold wpQuiet
    rw [key a hf]
    exact h _ (hf.put d undef)
  | pure =>
    intro a hf
    unfold wpPure
    rw [key a hf]
    exact h _ (hf.put d undef)
theorem OKx_ieqT {P : Program} {n : Nat} {w0 : World} {K : Fm → List Res → Prop} {F : Fm} {L : List Res} {m : Md} {ops : Array Oper} {rest : List Oper} {d : Option Nat} {ty : TypeId} {pos : String} {aft : Array Edge} {t ut : TypeId} {x y : Operand} {k : IntKind} {a : Int}
    (hx : rv n F x = .int k a) (hy : rv n F y = .int k a) (kk : OKx P n w0 m ops K rest (updo F d (.bool true)) L) : OKx P n w0 m ops K (⟨d, .binOp .eql t x y ut, ty, pos, aft, none⟩ :: rest) F L :=
  OKx_eql hx hy (fun _ => kk) (fun h => absurd rfl h)
end Go.Proofs.YthnlnffmmioapaaGreatDoor
namespace Go.Proofs.YthnlnffmmioapaaGreatDoor
open Go.RowKit
def zEl : List Value := .bool false :: (List.replicate 256 (.bool false) ++ [.int .i64 0, .int .i64 0])
instance : TAgg Tryz.prog 147 259 zEl := ⟨fun w => by kernel_rfl, fun w => by kernel_rfl, fun w => by kernel_rfl⟩
instance : TSlice Tryz.prog 135 147 259 280 (.agg zEl.toArray) := ⟨⟨by kernel_rfl, by kernel_rfl, by kernel_rfl, by decide⟩⟩
instance : TFld Tryz.prog 147 0 0 4 := ⟨by kernel_rfl, by kernel_rfl⟩
instance : TFld Tryz.prog 147 1 1 145 := ⟨by kernel_rfl, by kernel_rfl⟩
instance : TFld Tryz.prog 147 2 257 3 := ⟨by kernel_rfl, by kernel_rfl⟩
instance : TFld Tryz.prog 147 3 258 3 := ⟨by kernel_rfl, by kernel_rfl⟩
instance : TStruct Tryz.prog 147 [(0, 1), (1, 256), (257, 1), (258, 1)] := ⟨by kernel_rfl⟩
instance : TAgg Tryz.prog 145 256 (List.replicate 256 (.bool false)) := ⟨fun w => by kernel_rfl, fun w => by kernel_rfl, fun w => by kernel_rfl⟩
end Go.Proofs.YthnlnffmmioapaaGreatDoor
namespace Go.Proofs.YthnlnffmmioapaaGreatDoor
open Go.RowKit
def bOf (l : List UInt8) : ByteArray := ⟨l.toArray⟩
theorem bOf_data (s : ByteArray) : bOf s.data.toList = s := by
  unfold bOf
  cases s
  rfl
theorem data_bOf (l : List UInt8) : (bOf l).data.toList = l := rfl
theorem bOf_size (l : List UInt8) : (bOf l).size = l.length := rfl
end Go.Proofs.YthnlnffmmioapaaGreatDoor
