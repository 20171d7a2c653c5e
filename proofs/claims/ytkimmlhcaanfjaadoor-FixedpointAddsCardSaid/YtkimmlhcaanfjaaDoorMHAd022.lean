/-
  Part 2 of the proof: Mix. No statement of the seat is proved here.
-/
import Derived.Test.YtkimmlhcaanfjaaDoorMHAd021
import Derived.Deep.Quiet
import Derived.StillTail
namespace Go.Proofs.YtkimmlhcaanfjaaDoor
open Go.RowKit
theorem beq_ne {i d : Nat} (h : i ≠ d) : Nat.beq i d = false := by
  cases hb : Nat.beq i d with
  | false => rfl
  | true => exact absurd (Nat.eq_of_beq_eq_true hb) h
def memN (i : Nat) : List Nat → Bool
  | [] => false
  | w :: ws => cond (Nat.beq i w) true (memN i ws)
theorem memN_iff (i : Nat) (W : List Nat) : memN i W = true ↔ i ∈ W := by
  induction W with
  | nil => simp [memN]
  | cons w W ih =>
    simp only [memN, List.mem_cons]
    by_cases h : i = w
    · subst h; simp
    · have : Nat.beq i w = false := beq_ne h
      rw [this]; simp [ih, h]
section
variable (P : Program) (ops : Array Oper)
def wpPure (C : World → Prop) (Q : Act → Prop) : List Oper → Act → Prop
  | [], a => Q a
  | o :: rest, a => if Region.wanted o (yielded ops a.tmps) then ∃ v, (∀ w, C w → (execOp a.eval o).run P w = .ok (.value v) w) ∧ wpPure C Q rest (a.put o.dst v) else wpPure C Q rest (a.put o.dst undef)
def wpListC (C : World → Prop) (Q : Exit → Act → World → Prop) : List Oper → Act → World → Prop
  | [], a, w => C w ∧ Q .normal a w
  | o :: rest, a, w => C w ∧ if Region.wanted o (yielded ops a.tmps) then o.wp P a w (wpListC C Q rest) Q else wpListC C Q rest (a.put o.dst undef) w
def anyC (C : Array Bool → World → Prop) (Q : Exit → Act → World → Prop) : Nat → Array Bool → Act → World → Prop
  | 0, listed, a, w => C listed w ∧ Region.ready .any ops listed = [] ∧ Q .normal a w
  | f + 1, listed, a, w => C listed w ∧ (Region.ready .any ops listed = [] → Q .normal a w) ∧ ∀ i ∈ Region.ready .any ops listed, wpOp P ops Q i (anyC C Q f (listed.setIfInBounds i true)) a w
def waiters (i : Nat) : List Nat :=
  (List.range ops.size).foldl (fun W j => match ops[j]? with
    | some oj => if oj.after.any (fun e => Region.binds .any e && (Nat.beq e.on i || memN e.on W)) then j :: W else W
    | none => W) []
def started (T : List Nat) (listed : Array Bool) : Bool := T.any fun t => listed.getD t false
def stepB (T : List Nat) (listed : Array Bool) (i : Nat) : Bool :=
  (Region.ready .any ops listed).contains i && Region.free .any ops listed i && !memN i T && (waiters ops i).all fun j => !listed.getD j true
def seqLB : List Nat → Array Bool → Bool
  | [], listed => (Region.ready .any ops listed).isEmpty
  | t :: T, listed => decide (Region.ready .any ops listed = [t]) && seqLB T (listed.setIfInBounds t true)
def chainLB (T : List Nat) : List (Nat × Bool) → Array Bool → Bool
  | [], listed => seqLB ops T listed
  | (i, t1) :: E, listed => stepB ops T listed i && (!t1 || T.all fun t => memN t (waiters ops i)) && chainLB T E (listed.setIfInBounds i true)
def wpEarly (wf : World) (Cw : World → Prop) (Q : Act → Prop) : List (Nat × Bool) → Act → Prop
  | [], a => Q a
  | (i, t1) :: E, a => ∃ oi, ops[i]? = some oi ∧ if Region.wanted oi (yielded ops a.tmps) then ∃ v, (∀ w, (if t1 = true then w = wf else Cw w) → (execOp a.eval oi).run P w = .ok (.value v) w) ∧ wpEarly wf Cw Q E (a.put oi.dst v) else wpEarly wf Cw Q E (a.put oi.dst undef)
end
section
variable {P : Program} {ops : Array Oper} {Q : Exit → Act → World → Prop} {C : Array Bool → World → Prop}
theorem anyC_any : ∀ (f : Nat) (listed : Array Bool) (a : Act) (w : World), anyC P ops C Q f listed a w → wpAny P .any ops Q f listed a w
  | 0, _, _, _, h => ⟨h.2.1, h.2.2⟩
  | f + 1, _, _, _, h => ⟨h.2.1, fun i hi => wpOp_mono (fun a w h => anyC_any f _ a w h) (h.2.2 i hi)⟩
theorem anyC.cls {f : Nat} {listed : Array Bool} {a : Act} {w : World} (h : anyC P ops C Q f listed a w) : C listed w := by
  cases f with
  | zero => exact h.1
  | succ f => exact h.1
theorem waiters_spec (i j : Nat) (h : j ∈ waiters ops i) : ∃ oj, ops[j]? = some oj ∧ ∃ e ∈ oj.after, Region.binds .any e = true ∧ (e.on = i ∨ e.on ∈ waiters ops i) := by
  have key : ∀ (l : List Nat) (W : List Nat), (∀ j ∈ W, ∃ oj, ops[j]? = some oj ∧ ∃ e ∈ oj.after, Region.binds .any e = true ∧ (e.on = i ∨ e.on ∈ W)) →
      ∀ j ∈ l.foldl (fun W j => match ops[j]? with
        | some oj => if oj.after.any (fun e => Region.binds .any e && (Nat.beq e.on i || memN e.on W)) then j :: W else W
        | none => W) W, ∃ oj, ops[j]? = some oj ∧ ∃ e ∈ oj.after, Region.binds .any e = true ∧ (e.on = i ∨ e.on ∈ l.foldl (fun W j => match ops[j]? with
        | some oj => if oj.after.any (fun e => Region.binds .any e && (Nat.beq e.on i || memN e.on W)) then j :: W else W
        | none => W) W) := by
    intro l
    induction l with
    | nil => intro W h; exact h
    | cons k l ih =>
      intro W hW
      rw [List.foldl_cons]
      refine ih _ ?_
      intro j hj
      cases hk : ops[k]? with
      | none => rw [hk] at hj; simpa only [hk] using hW j hj
      | some ok =>
        rw [hk] at hj
        simp only at hj ⊢
        by_cases hc : ok.after.any (fun e => Region.binds .any e && (Nat.beq e.on i || memN e.on W)) = true
        · rw [if_pos hc] at hj ⊢
          rcases List.mem_cons.1 hj with rfl | hj
          · obtain ⟨e, he, hb⟩ := Array.any_eq_true'.1 hc
            simp only [Bool.and_eq_true, Bool.or_eq_true] at hb
            refine ⟨ok, hk, e, he, hb.1, ?_⟩
            rcases hb.2 with h1 | h1
            · exact .inl (Nat.eq_of_beq_eq_true h1)
            · exact .inr (List.mem_cons_of_mem _ ((memN_iff _ _).1 h1))
          · obtain ⟨oj, h1, e, h2, h3, h4⟩ := hW j hj
            exact ⟨oj, h1, e, h2, h3, h4.imp id (List.mem_cons_of_mem _)⟩
        · rw [if_neg hc] at hj ⊢
          exact hW j hj
  exact key _ [] (by simp) j h
theorem wpOp_putY {j : Nat} {oi oj : Oper} {v : Value} (hj : ops[j]? = some oj) (hap : oi.apart ops oj = true) (hsj : ∀ cs b, oj.op ≠ .select cs b)
    (hQ : ∀ c a w, Q (.panic c) (a.put oi.dst v) w → Q (.panic c) a w) {K : Act → World → Prop} {a : Act} {w : World} {Y : Act → Prop}
    (keep : ∀ a, Y a → ∀ u, Y (a.put oj.dst u)) (keepD : ∀ a d, Y a → Y { a with defers := d :: a.defers })
    (hy : Y a) (h : wpOp P ops Q j K (a.put oi.dst v) w) : wpOp P ops Q j (fun a' w' => Y a' ∧ K (a'.put oi.dst v) w') a w := by
  obtain ⟨h1, h2, h3⟩ := Oper.apart_spec hap
  unfold wpOp at *
  simp only [hj] at *
  rw [wanted_put oj a oi.dst v h1] at h
  split
  · rename_i hw
    simp only [hw, if_true] at h
    rcases h with h | ⟨hasks, hlets⟩
    case inr => exact .inr ⟨by unfold Oper.asks at *; rw [execOp_put oj hsj a oi.dst v h1] at hasks; exact hasks, hlets⟩
    refine .inl ?_
    unfold Oper.wp at *
    rw [execOp_put oj hsj a oi.dst v h1] at h
    generalize (execOp a.eval oj).run P w = r at *
    cases r with
    | ok n w' =>
      cases n <;> simp only [Oper.upon] at h ⊢
      case value u => exact ⟨keep a hy u, by rw [← Act.put_comm a v u h2]; exact h⟩
      case skip => exact ⟨keep a hy _, by rw [← Act.put_comm a v undef h2]; exact h⟩
      case defer d =>
        refine ⟨keep _ (keepD a d hy) _, ?_⟩
        rw [← Act.put_comm _ v undef h2, ← Act.put_defers]
        exact h
      case enter f args =>
        refine Calls.mono h fun e w'' he => ?_
        cases e with
        | returned u => exact ⟨keep a hy u, by rw [← Act.put_comm a v u h2]; exact he⟩
        | panicked c => exact hQ _ _ _ he
        | outgrown => exact he
      case row row args => exact Rows.mono h fun u w'' he => ⟨keep a hy u, by rw [← Act.put_comm a v u h2]; exact he⟩
    | halt x w' =>
      cases x <;> simp only [Oper.upon] at h ⊢
      case panic u => exact hQ _ _ _ h
  · rename_i hw
    simp only [hw] at h
    exact ⟨keep a hy _, by rw [← Act.put_comm a v undef h2]; exact h⟩
theorem anyC_first {i : Nat} {oi : Oper} {v : Value} (hi : ops[i]? = some oi) (hsel : ∀ (j : Nat) (o : Oper) cs b, ops[j]? = some o → o.op ≠ .select cs b)
    (hQ : ∀ c a w, ¬ Q (.panic c) a w) (hC : ∀ listed w, (listed.getD i true = false) → C (listed.setIfInBounds i true) w → C listed w) :
    ∀ (fuel : Nat) (listed : Array Bool) (a : Act) (w : World),
      (∀ j oj, ops[j]? = some oj → j ≠ i → listed.getD j true = false → (∀ e ∈ oj.after, Region.binds .any e = true → e.on ≠ i) → oi.apart ops oj = true) →
      i ∈ Region.ready .any ops listed → (∀ j ∈ waiters ops i, listed.getD j true = false) →
      ((Region.wanted oi (yielded ops a.tmps) = true ∧ ∀ (listed' : Array Bool) (w' : World), listed'.getD i true = false → (∀ j ∈ waiters ops i, listed'.getD j true = false) → C listed' w' → (execOp a.eval oi).run P w' = .ok (.value v) w') ∨
        (Region.wanted oi (yielded ops a.tmps) = false ∧ v = undef)) →
      anyC P ops C Q fuel (listed.setIfInBounds i true) (a.put oi.dst v) w → anyC P ops C Q (fuel + 1) listed a w := by
  intro fuel
  have now : ∀ (f : Nat) (listed : Array Bool) (a : Act) (w : World), i ∈ Region.ready .any ops listed → (∀ j ∈ waiters ops i, listed.getD j true = false) → C listed w →
      ((Region.wanted oi (yielded ops a.tmps) = true ∧ ∀ (listed' : Array Bool) (w' : World), listed'.getD i true = false → (∀ j ∈ waiters ops i, listed'.getD j true = false) → C listed' w' → (execOp a.eval oi).run P w' = .ok (.value v) w') ∨
        (Region.wanted oi (yielded ops a.tmps) = false ∧ v = undef)) →
      anyC P ops C Q f (listed.setIfInBounds i true) (a.put oi.dst v) w → wpOp P ops Q i (anyC P ops C Q f (listed.setIfInBounds i true)) a w := by
    intro f listed a w hr hW hc hy H
    unfold wpOp
    simp only [hi]
    rcases hy with ⟨hw, hy⟩ | ⟨hw, rfl⟩
    · rw [if_pos hw]
      left
      unfold Oper.wp
      rw [hy listed w (mem_ready.1 hr).1 hW hc, Oper.upon_value]
      exact H
    · rw [if_neg (by rw [hw]; simp)]
      exact H
  induction fuel with
  | zero =>
    intro listed a w hfree hr hW hy H
    have hc := hC listed w (mem_ready.1 hr).1 H.cls
    refine ⟨hc, fun h => (by rw [h] at hr; cases hr), fun j hj => ?_⟩
    by_cases hji : j = i
    · subst hji; exact now 0 listed a w hr hW hc hy H
    · have := ready_mono hj hji
      rw [H.2.1] at this
      cases this
  | succ fuel ih =>
    intro listed a w hfree hr hW hy H
    have hc := hC listed w (mem_ready.1 hr).1 H.cls
    refine ⟨hc, fun h => (by rw [h] at hr; cases hr), fun j hj => ?_⟩
    by_cases hji : j = i
    · subst hji; exact now (fuel + 1) listed a w hr hW hc hy H
    · have h1 := H.2.2 j (ready_mono hj hji)
      obtain ⟨hjun, oj, hoj, hall⟩ := mem_ready.1 hj
      have hun : ∀ k, listed.getD k true = false → listed.getD k false = true → False := fun k h0 h1 => by
        rcases Nat.lt_or_ge k listed.size with h' | h'
        · simp [h'] at h0 h1; rw [h0] at h1; cases h1
        · simp [Array.getElem?_eq_none h'] at h1
      have hnot : ∀ e ∈ oj.after, Region.binds .any e = true → e.on ≠ i := fun e he hb heq => by
        have h1 := hall e he hb
        rw [heq] at h1
        exact hun i (mem_ready.1 hr).1 h1
      have hjW : j ∉ waiters ops i := fun hjW => by
        obtain ⟨oj', hoj', e, he, hb, hon⟩ := waiters_spec i j hjW
        obtain rfl : oj' = oj := Option.some.inj (hoj'.symm.trans hoj)
        have h1 := hall e he hb
        rcases hon with hon | hon
        · exact hnot e he hb hon
        · exact hun e.on (hW e.on hon) h1
      obtain ⟨p1, p2, p3⟩ := Oper.apart_spec (hfree j oj hoj hji hjun hnot)
      have keep : ∀ (a : Act), ((Region.wanted oi (yielded ops a.tmps) = true ∧ ∀ (listed' : Array Bool) (w' : World), listed'.getD i true = false → (∀ j ∈ waiters ops i, listed'.getD j true = false) → C listed' w' → (execOp a.eval oi).run P w' = .ok (.value v) w') ∨
          (Region.wanted oi (yielded ops a.tmps) = false ∧ v = undef)) → ∀ u, ((Region.wanted oi (yielded ops (a.put oj.dst u).tmps) = true ∧ ∀ (listed' : Array Bool) (w' : World), listed'.getD i true = false → (∀ j ∈ waiters ops i, listed'.getD j true = false) → C listed' w' → (execOp (a.put oj.dst u).eval oi).run P w' = .ok (.value v) w') ∨
          (Region.wanted oi (yielded ops (a.put oj.dst u).tmps) = false ∧ v = undef)) := fun a hy u => by
        rw [execOp_put oi (fun cs b => hsel i oi cs b hi) a oj.dst u p3, wanted_put oi a oj.dst u p3]
        exact hy
      have h2 := wpOp_putY (Y := fun a => (Region.wanted oi (yielded ops a.tmps) = true ∧ ∀ (listed' : Array Bool) (w' : World), listed'.getD i true = false → (∀ j ∈ waiters ops i, listed'.getD j true = false) → C listed' w' → (execOp a.eval oi).run P w' = .ok (.value v) w') ∨
          (Region.wanted oi (yielded ops a.tmps) = false ∧ v = undef)) hoj (hfree j oj hoj hji hjun hnot) (fun cs b => hsel j oj cs b hoj) (fun c a w h => absurd h (hQ _ _ _)) keep (fun a d h => h) hy h1
      have hfree' : ∀ k ok, ops[k]? = some ok → k ≠ i → (listed.setIfInBounds j true).getD k true = false →
          (∀ e ∈ ok.after, Region.binds .any e = true → e.on ≠ i) → oi.apart ops ok = true := fun k ok hk hki hun' hno => by
        refine hfree k ok hk hki ?_ hno
        by_cases hjk : j = k
        · subst hjk; exact hjun
        · rw [getD_set_ne true hjk] at hun'; exact hun'
      have hW' : ∀ k ∈ waiters ops i, (listed.setIfInBounds j true).getD k true = false := fun k hk => by
        rw [getD_set_ne true (fun e => hjW (by rw [e]; exact hk))]
        exact hW k hk
      refine wpOp_mono (fun a' w' h3 => ih (listed.setIfInBounds j true) a' w' hfree' (ready_mono hr (Ne.symm hji)) hW' h3.1 ?_) h2
      rw [Array.setIfInBounds_comm _ _ hji]
      exact h3.2
theorem anyC_seq {wf : World} {Cw : World → Prop} (T0 : List Nat) : ∀ (T : List Nat) (lo : List Oper) (listed : Array Bool) (a : Act) (w : World), T.map (fun t => ops[t]?) = lo.map some → (∀ t ∈ T, t ∈ T0) → seqLB ops T listed = true → (started T0 listed = false → w = wf) → wpListC P ops Cw Q lo a w →
    anyC P ops (fun listed w => (started T0 listed = false → w = wf) ∧ Cw w) Q T.length listed a w
  | [], lo, listed, a, w, hm, _, hB, hs, h => by
    obtain rfl : lo = [] := by simpa using hm.symm
    exact ⟨⟨hs, h.1⟩, by simpa [seqLB] using hB, h.2⟩
  | t :: T, lo, listed, a, w, hm, hT, hB, hs, h => by
    cases lo with
    | nil => simp at hm
    | cons o lo =>
      simp only [List.map_cons, List.cons.injEq] at hm
      obtain ⟨h0, hm⟩ := hm
      simp only [seqLB, Bool.and_eq_true, decide_eq_true_eq] at hB
      obtain ⟨hcw, h⟩ := h
      refine ⟨⟨hs, hcw⟩, fun h1 => (by rw [hB.1] at h1; cases h1), fun i hi => ?_⟩
      rw [hB.1] at hi
      have hit : i = t := by simpa using hi
      subst hit
      have hstart : started T0 (listed.setIfInBounds i true) = true := by
        unfold started
        rw [List.any_eq_true]
        refine ⟨i, hT i (by simp), ?_⟩
        have hlt : i < listed.size := by
          have hr : i ∈ Region.ready .any ops listed := by rw [hB.1]; simp
          have h0 := (mem_ready.1 hr).1
          rcases Nat.lt_or_ge i listed.size with h' | h'
          · exact h'
          · simp [Array.getElem?_eq_none h'] at h0
        simp [hlt]
      unfold wpOp
      simp only [h0]
      have next : ∀ a w, wpListC P ops Cw Q lo a w → anyC P ops (fun listed w => (started T0 listed = false → w = wf) ∧ Cw w) Q T.length (listed.setIfInBounds i true) a w := fun a w h =>
        anyC_seq T0 T lo _ a w hm (fun t ht => hT t (by simp [ht])) hB.2 (fun h1 => by rw [hstart] at h1; cases h1) h
      split
      · rename_i hw
        rw [if_pos hw] at h
        exact .inl (Oper.wp_mono next h)
      · rename_i hw
        rw [if_neg hw] at h
        exact next _ _ h
theorem started_set {T : List Nat} {i : Nat} (h : memN i T = false) (listed : Array Bool) : started T (listed.setIfInBounds i true) = started T listed := by
  unfold started
  rw [Bool.eq_iff_iff]
  simp only [List.any_eq_true]
  have hne : ∀ t ∈ T, i ≠ t := fun t ht e => by
    subst e
    rw [(memN_iff _ _).2 ht] at h
    cases h
  constructor
  · rintro ⟨t, ht, hb⟩
    rw [getD_set_ne false (hne t ht)] at hb
    exact ⟨t, ht, hb⟩
  · rintro ⟨t, ht, hb⟩
    refine ⟨t, ht, ?_⟩
    rw [getD_set_ne false (hne t ht)]
    exact hb
theorem anyC_early {wf : World} {Cw : World → Prop} (T : List Nat) (lo : List Oper) (hm : T.map (fun t => ops[t]?) = lo.map some) (hcw : Cw wf) (hsel : Region.noSelect ops = true) (hQ : ∀ c a w, ¬ Q (.panic c) a w) :
    ∀ (E : List (Nat × Bool)) (listed : Array Bool) (a : Act), chainLB ops T E listed = true → started T listed = false → wpEarly P ops wf Cw (fun a' => wpListC P ops Cw Q lo a' wf) E a →
    anyC P ops (fun listed w => (started T listed = false → w = wf) ∧ Cw w) Q (E.length + T.length) listed a wf
  | [], listed, a, hB, hs, h => by
    rw [List.length_nil, Nat.zero_add]
    exact anyC_seq T T lo listed a wf hm (fun t ht => ht) hB (fun _ => rfl) h
  | (i, t1) :: E, listed, a, hB, hs, h => by
    simp only [chainLB, stepB, Bool.and_eq_true, Bool.not_eq_true'] at hB
    obtain ⟨⟨⟨⟨⟨hr, hf⟩, hiT⟩, hW⟩, ht1⟩, hB'⟩ := hB
    obtain ⟨oi, hi, h⟩ := h
    have hr' : i ∈ Region.ready .any ops listed := by simpa using hr
    have hW' : ∀ j ∈ waiters ops i, listed.getD j true = false := fun j hj => by
      have := List.all_eq_true.1 hW j hj
      simpa using this
    have hs' : started T (listed.setIfInBounds i true) = false := by rw [started_set hiT]; exact hs
    have hC : ∀ listed w, listed.getD i true = false → ((started T (listed.setIfInBounds i true) = false → w = wf) ∧ Cw w) → ((started T listed = false → w = wf) ∧ Cw w) := fun listed w _ h =>
      ⟨fun h1 => h.1 (by rw [started_set hiT]; exact h1), h.2⟩
    rw [show (List.length ((i, t1) :: E)) + T.length = (E.length + T.length) + 1 by simp;omega]
    by_cases hw : Region.wanted oi (yielded ops a.tmps) = true
    · rw [if_pos hw] at h
      obtain ⟨v, hv, hk⟩ := h
      refine anyC_first hi (Region.noSelect_spec hsel) hQ hC _ listed a wf (Region.free_spec hi hf) hr' hW' (.inl ⟨hw, fun listed' w' hiu hWu hc => ?_⟩) (anyC_early T lo hm hcw hsel hQ E _ _ hB' hs' hk)
      refine hv w' ?_
      cases t1 with
      | false => simpa using hc.2
      | true =>
        simp only [if_true]
        refine hc.1 ?_
        have hall : T.all (fun t => memN t (waiters ops i)) = true := by simpa using ht1
        unfold started
        rw [List.any_eq_false]
        intro t ht hb
        have h1 := hWu t ((memN_iff _ _).1 (List.all_eq_true.1 hall t ht))
        rcases Nat.lt_or_ge t listed'.size with h' | h'
        · simp [h'] at h1 hb; rw [h1] at hb; cases hb
        · simp [Array.getElem?_eq_none h'] at hb
    · rw [if_neg hw] at h
      exact anyC_first hi (Region.noSelect_spec hsel) hQ hC _ listed a wf (Region.free_spec hi hf) hr' hW' (.inr ⟨by simpa using hw, rfl⟩) (anyC_early T lo hm hcw hsel hQ E _ _ hB' hs' h)
theorem wpEarly_append {wf : World} {Cw : World → Prop} {Qa : Act → Prop} : ∀ (E1 E2 : List (Nat × Bool)) (a : Act), wpEarly P ops wf Cw (fun a' => wpEarly P ops wf Cw Qa E2 a') E1 a → wpEarly P ops wf Cw Qa (E1 ++ E2) a
  | [], E2, a, h => h
  | (i, t) :: E1, E2, a, h => by
    obtain ⟨oi, hi, h⟩ := h
    refine ⟨oi, hi, ?_⟩
    split
    · rename_i hw
      rw [if_pos hw] at h
      obtain ⟨v, h1, h2⟩ := h
      exact ⟨v, h1, wpEarly_append E1 E2 _ h2⟩
    · rename_i hw
      rw [if_neg hw] at h
      exact wpEarly_append E1 E2 _ h
theorem wpEarly_of_pure {wf : World} {Cw C : World → Prop} {Qa : Act → Prop} (t1 : Bool) (hC : ∀ w, (if t1 = true then w = wf else Cw w) → C w) : ∀ (A : List Nat) (lo : List Oper) (a : Act), A.map (fun t => ops[t]?) = lo.map some → wpPure P ops C Qa lo a → wpEarly P ops wf Cw Qa (A.map fun i => (i, t1)) a
  | [], lo, a, hm, h => by
    obtain rfl : lo = [] := by simpa using hm.symm
    exact h
  | i :: A, lo, a, hm, h => by
    cases lo with
    | nil => simp at hm
    | cons o lo =>
      simp only [List.map_cons, List.cons.injEq] at hm
      obtain ⟨h0, hm⟩ := hm
      refine ⟨o, h0, ?_⟩
      unfold wpPure at h
      split
      · rename_i hw
        rw [if_pos hw] at h
        obtain ⟨v, h1, h2⟩ := h
        exact ⟨v, fun w hw => h1 w (hC w hw), wpEarly_of_pure t1 hC A lo _ hm h2⟩
      · rename_i hw
        rw [if_neg hw] at h
        exact wpEarly_of_pure t1 hC A lo _ hm h
def mixB (ops : Array Oper) (A B A' T : List Nat) : Bool :=
  Region.noSelect ops && Nat.beq (A.length + B.length + A'.length + T.length) ops.size && chainLB ops T ((A.map fun i => (i, false)) ++ ((B.map fun i => (i, true)) ++ (A'.map fun i => (i, false)))) (Array.replicate ops.size false)
theorem wp_region_mix {id : Nat} {a : Act} {w : World} {C Cw : World → Prop} (A B A' T : List Nat) (la lb la' lt : List Oper) (hm : P.follows .mixedOrders = true) (hB : mixB ops A B A' T = true)
    (h1 : A.map (fun t => ops[t]?) = la.map some) (h2 : B.map (fun t => ops[t]?) = lb.map some) (h3 : A'.map (fun t => ops[t]?) = la'.map some) (h4 : T.map (fun t => ops[t]?) = lt.map some)
    (hQ : ∀ c a w, ¬ Q (.panic c) a w) (hc : C w.drew) (hcw : Cw w.drew)
    (h : wpPure P ops Cw (fun a1 => wpPure P ops C (fun a2 => wpPure P ops Cw (fun a3 => wpListC P ops Cw Q lt a3 w.drew) la' a2) lb a1) la a) : (Code.region id ops true).wp P Q a w := by
  simp only [mixB, Bool.and_eq_true] at hB
  obtain ⟨⟨hsel, hsz⟩, hch⟩ := hB
  have hsz' := Nat.eq_of_beq_eq_true hsz
  refine wp_region_any hm ?_
  have e := anyC_early (P := P) (ops := ops) (Q := Q) (wf := w.drew) (Cw := Cw) T lt h4 hcw hsel hQ _ (Array.replicate ops.size false) a hch (by
    unfold started
    rw [List.any_eq_false]
    intro t _
    simp only [Array.getD_eq_getD_getElem?, Array.getElem?_replicate]
    split <;> simp) (by
    refine wpEarly_append _ _ a (wpEarly_of_pure false (fun w hw => by simpa using hw) A la a h1 ?_)
    have mono : ∀ {C : World → Prop} {Q1 Q2 : Act → Prop} (hq : ∀ a, Q1 a → Q2 a) (l : List Oper) (a : Act), wpPure P ops C Q1 l a → wpPure P ops C Q2 l a := by
      intro C Q1 Q2 hq l
      induction l with
      | nil => intro a h; exact hq _ h
      | cons o l ih =>
        intro a h
        unfold wpPure at h ⊢
        split
        · rename_i hw
          rw [if_pos hw] at h
          obtain ⟨v, h1, h2⟩ := h
          exact ⟨v, h1, ih _ h2⟩
        · rename_i hw
          rw [if_neg hw] at h
          exact ih _ h
    refine mono (fun a1 h => wpEarly_append _ _ a1 (wpEarly_of_pure true (fun w' hw => by simp only [if_true] at hw; subst hw; exact hc) B lb a1 h2 (mono (fun a2 h => wpEarly_of_pure false (fun w hw => by simpa using hw) A' la' a2 h3 h) lb a1 h))) la a h)
  have hlen : (List.map (fun i => (i, false)) A ++ (List.map (fun i => (i, true)) B ++ List.map (fun i => (i, false)) A')).length + T.length = ops.size := by
    simp only [List.length_append, List.length_map];omega
  rw [hlen] at e
  exact anyC_any _ _ _ _ e
end
end Go.Proofs.YtkimmlhcaanfjaaDoor
