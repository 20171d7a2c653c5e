/-
  Part 12 of the proof: Rd27, Kd27, Any, Anx, Bt07. No statement of the seat is proved here.
-/
import Derived.Test.YthnlnffmmioapaaDoorMHUs2711
namespace Go.Proofs.YthnlnffmmioapaaDoor
open Go.RowKit
def RdnV (w : World) (r : Rdn) (v : Value) : Prop := ∃ wv sv, v = .agg #[wv, sv] ∧ Strs w wv r.words ∧ Ints w sv r.src
theorem RdnV.below {w w' : World} {r : Rdn} {v : Value} (h : RdnV w r v) (hb : Below w.heap.size w w') : RdnV w' r v := by
  obtain ⟨a, b, h1, h2, h3⟩ := h
  exact ⟨a, b, h1, h2.below hb, h3.below hb⟩
def RulV (w : World) (r : Rul) (v : Value) : Prop := ∃ a b c d, v = .agg #[.string r.name, a, b, c, d] ∧ Exp w r.cnd (.agg #[a, b, c, d]) ∧ r.name.size ≤ 140737488355328
theorem RulV.below {w w' : World} {r : Rul} {v : Value} (h : RulV w r v) (hb : Below w.heap.size w w') : RulV w' r v := by
  obtain ⟨a, b, c, d, h1, h2, h3⟩ := h
  exact ⟨a, b, c, d, h1, h2.below hb, h3⟩
def Rdns (w : World) (v : Value) (l : List Rdn) : Prop := ∃ g, Sl2 w v 2 l.length g ∧ ∀ j, (h : j < l.length) → RdnV w l[j] (.agg #[g j 0, g j 1])
theorem Rdns.below {w w' : World} {l : List Rdn} {v : Value} (h : Rdns w v l) (hb : Below w.heap.size w w') : Rdns w' v l := by
  obtain ⟨g, h1, h2⟩ := h
  exact ⟨g, h1.below hb, fun j hj => (h2 j hj).below hb⟩
def Ruls (w : World) (v : Value) (l : List Rul) : Prop := ∃ g, Sl2 w v 5 l.length g ∧ (∀ j, (h : j < l.length) → RulV w l[j] (.agg #[g j 0, g j 1, g j 2, g j 3, g j 4])) ∧ ∀ a k c, v = .slice a k c → k ≤ c
theorem Ruls.below {w w' : World} {l : List Rul} {v : Value} (h : Ruls w v l) (hb : Below w.heap.size w w') : Ruls w' v l := by
  obtain ⟨g, h1, h2, h3⟩ := h
  exact ⟨g, h1.below hb, fun j hj => (h2 j hj).below hb, h3⟩
def UniV (w : World) (u : List Rdn) (v : Value) : Prop := ∃ a b c, v = .agg #[a, b, c] ∧ Rdns w c u
theorem UniV.below {w w' : World} {u : List Rdn} {v : Value} (h : UniV w u v) (hb : Below w.heap.size w w') : UniV w' u v := by
  obtain ⟨a, b, c, h1, h2⟩ := h
  exact ⟨a, b, c, h1, h2.below hb⟩
def Unis (w : World) (v : Value) (l : List (List Rdn)) : Prop := ∃ g, Sl2 w v 3 l.length g ∧ ∀ j, (h : j < l.length) → UniV w l[j] (.agg #[g j 0, g j 1, g j 2])
theorem Unis.below {w w' : World} {l : List (List Rdn)} {v : Value} (h : Unis w v l) (hb : Below w.heap.size w w') : Unis w' v l := by
  obtain ⟨g, h1, h2⟩ := h
  exact ⟨g, h1.below hb, fun j hj => (h2 j hj).below hb⟩
def Wtb (w : World) (v : Value) (l : List (List ByteArray)) : Prop := ∃ e, Sl w v 1 l.length e ∧ ∀ j, (h : j < l.length) → Strs w (e j) l[j]
theorem Wtb.below {w w' : World} {l : List (List ByteArray)} {v : Value} (h : Wtb w v l) (hb : Below w.heap.size w w') : Wtb w' v l := by
  obtain ⟨g, h1, h2⟩ := h
  exact ⟨g, h1.below hb, fun j hj => (h2 j hj).below hb⟩
theorem Exp.shape {w : World} {x : Cnd} {v : Value} (h : Exp w x v) : ∃ pv g, v = .agg #[.int .i64 x.kind, .int .i64 x.num, .string x.text, pv] ∧ x.text.size ≤ 140737488355328 ∧ Sl2 w pv 4 x.parts.length g ∧ ∀ j, (h : j < x.parts.length) → Exp w x.parts[j] (.agg #[g j 0, g j 1, g j 2, g j 3]) := by
  cases x with
  | mk k n s ps =>
    unfold Exp at h
    obtain ⟨pv, g, h1, h2, h3, h4⟩ := h
    refine ⟨pv, g, h1, h2, h3, fun j hj => ?_⟩
    have := h4.at j hj
    rwa [Nat.zero_add] at this
end Go.Proofs.YthnlnffmmioapaaDoor
namespace Go.Proofs.YthnlnffmmioapaaDoor
open Go.RowKit
section
variable {P : Program} {n : Nat} {w0 : World} {K : Fm → List Res → Prop} {F : Fm} {L : List Res} {m : Md} {ops : Array Oper} {rest : List Oper} {d : Option Nat} {ty : TypeId} {pos : String} {aft : Array Edge}
theorem OKx_idxAs {t len e sz : Nat} {zs : List Value} [T : TAgg P e sz zs] (hu : P.underlying t = some (.array len e)) {x ix : Operand} {g o : Nat} {k : IntKind} {i : Int} (hx : rv n F x = .pointer (some ⟨g, o, none⟩)) (hix : rv n F ix = .int k i) (h0 : 0 ≤ i) (h1 : i < len)
    (kk : OKx P n w0 m ops K rest (updo F d (.pointer (some ⟨g, o + i.toNat * sz, none⟩))) L) : OKx P n w0 m ops K (⟨d, .indexAddr t x ix, ty, pos, aft, none⟩ :: rest) F L := by
  obtain ⟨j, rfl⟩ := Int.eq_ofNat_of_zero_le h0
  exact OKx_still (fun w _ _ _ _ _ => by
    have hu' : (underlying t).run P w = .ok (.array len e) w := by simp [underlying, program, Sem.run_bind, Sem.run, hu, Result.andThen]
    have h1' : j < len := by omega
    simp [execOp, Instr.indexAt, hx, hix, asIntOf, Sem.run_bind, hu', T.size, Result.andThen, Instr.sureAddr, h1', add_at]) kk
end
def kdC (i c : Nat) : Value := match c with
  | 0 => .string (bOf (wrdK i))
  | 1 => .bool (numK i)
  | 2 => .bool (txtK i)
  | 3 => .int .i64 (lstK i)
  | _ => .int .i64 (mstK i)
def KdL (w : World) : Prop := ∀ i, i < 14 → ∀ c, c < 5 → w.cell? ⟨1, i * 5 + c, none⟩ = some (kdC i c)
theorem KdL.below {w w' : World} (h : KdL w) (hb : Below w.heap.size w w') : KdL w' := fun i hi c hc => (hb.cell (World.block_lt_of_cell? w _ (h i hi c hc))).trans (h i hi c hc)
theorem KdL.pt {w : World} (h : KdL w) (i : Nat) (hi : i < 14) : Pt w (.pointer (some ⟨1, i * 5, none⟩)) 5 (kdC i) := ⟨_, _, rfl, h i hi⟩
theorem kdC_eq (i : Nat) : ((List.range 5).map (kdC i)).toArray = #[.string (bOf (wrdK i)), .bool (numK i), .bool (txtK i), .int .i64 (lstK i), .int .i64 (mstK i)] := rfl
def kfC (i : Nat) : Value := .func (.func ([0, 125, 126, 127, 128, 132, 134, 135, 136, 138, 139].getD i 0)) #[] #[]
def KfL (w : World) : Prop := ∀ i, 0 < i → i < 11 → w.cell? ⟨0, i, none⟩ = some (kfC i)
theorem KfL.below {w w' : World} (h : KfL w) (hb : Below w.heap.size w w') : KfL w' := fun i h0 hi => (hb.cell (World.block_lt_of_cell? w _ (h i h0 hi))).trans (h i h0 hi)
end Go.Proofs.YthnlnffmmioapaaDoor
namespace Go.Proofs.YthnlnffmmioapaaDoor
open Go.RowKit
def maskS (n : Nat) (S : List Nat) : Array Bool := ((List.range n).map fun i => memN i S).toArray
section
variable {P : Program} {n : Nat} {w0 : World} {Q : Exit → Fm → List Res → Prop} {K : Fm → List Res → Prop} {F : Fm} {L : List Res} {l : List Oper} {N f : Nat} {S : List Nat}
def OKa (P : Program) (n : Nat) (w0 : World) (K : Fm → List Res → Prop) (l : List Oper) (N f : Nat) (S : List Nat) (F : Fm) (L : List Res) : Prop :=
  ∀ w a, Fr n a F → Hp w0.heap.size w0 w L → wpAny P .any l.toArray (liftN n w0 K) f (maskS N S) a w
theorem OKa.use (h : OKa P n w0 K l N f S F L) : ∀ w a, Fr n a F → Hp w0.heap.size w0 w L → wpAny P .any l.toArray (liftN n w0 K) f (maskS N S) a w := h
theorem OKa_end (hr : (Region.ready .any l.toArray (maskS N S)).isEmpty = true) (h : K F L) : OKa P n w0 K l N 0 S F L :=
  fun w a hf hp => ⟨List.isEmpty_iff.1 hr, rfl, F, L, hf, hp, h⟩
def kidOk (l : List Oper) (N : Nat) (S : List Nat) (i : Nat) (S' : List Nat) : Bool := (maskS N S').toList == ((maskS N S).setIfInBounds i true).toList
theorem kidOk_eq {i : Nat} {S' : List Nat} (h : kidOk l N S i S' = true) : maskS N S' = (maskS N S).setIfInBounds i true := by
  unfold kidOk at h
  exact Array.toList_inj.1 (beq_iff_eq.1 h)
end
attribute [irreducible] OKa
end Go.Proofs.YthnlnffmmioapaaDoor
namespace Go.Proofs.YthnlnffmmioapaaDoor
open Go.RowKit
section
variable {P : Program} {ops : Array Oper} {Q : Exit → Act → World → Prop}
def pureLB (ops : Array Oper) : List Nat → Array Bool → Bool
  | [], _ => true
  | i :: E, listed => stepB ops [] listed i && pureLB ops E (listed.setIfInBounds i true)
def listE (E : List Nat) (listed : Array Bool) : Array Bool := E.foldl (fun l i => l.setIfInBounds i true) listed
theorem anyC_pureE {Cw : World → Prop} (hsel : Region.noSelect ops = true) (hQ : ∀ c a w, ¬ Q (.panic c) a w) (fuel : Nat) : ∀ (E : List Nat) (lo : List Oper) (listed : Array Bool) (a : Act) (w : World), E.map (fun t => ops[t]?) = lo.map some → pureLB ops E listed = true →
    wpPure P ops Cw (fun a' => anyC P ops (fun _ w => Cw w) Q fuel (listE E listed) a' w) lo a → anyC P ops (fun _ w => Cw w) Q (fuel + E.length) listed a w
  | [], lo, listed, a, w, hm, _, h => by
    obtain rfl : lo = [] := by simpa using hm.symm
    exact h
  | i :: E, lo, listed, a, w, hm, hB, h => by
    cases lo with
    | nil => simp at hm
    | cons o lo =>
      simp only [List.map_cons, List.cons.injEq] at hm
      obtain ⟨hi, hm⟩ := hm
      simp only [pureLB, stepB, Bool.and_eq_true, Bool.not_eq_true'] at hB
      obtain ⟨⟨⟨⟨hr, hf⟩, _⟩, hW⟩, hB'⟩ := hB
      have hr' : i ∈ Region.ready .any ops listed := by simpa using hr
      have hW' : ∀ j ∈ waiters ops i, listed.getD j true = false := fun j hj => by
        have := List.all_eq_true.1 hW j hj
        simpa using this
      rw [List.length_cons, ← Nat.add_assoc]
      unfold wpPure at h
      by_cases hw : Region.wanted o (yielded ops a.tmps) = true
      · rw [if_pos hw] at h
        obtain ⟨v, hv, hk⟩ := h
        exact anyC_first hi (Region.noSelect_spec hsel) hQ (fun _ _ _ h => h) _ listed a w (Region.free_spec hi hf) hr' hW' (.inl ⟨hw, fun _ w' _ _ hc => hv w' hc⟩) (anyC_pureE hsel hQ fuel E lo _ _ w hm hB' hk)
      · rw [if_neg hw] at h
        exact anyC_first hi (Region.noSelect_spec hsel) hQ (fun _ _ _ h => h) _ listed a w (Region.free_spec hi hf) hr' hW' (.inr ⟨by simpa using hw, rfl⟩) (anyC_pureE hsel hQ fuel E lo _ _ w hm hB' h)
theorem wpPure_mono {C : World → Prop} {Q1 Q2 : Act → Prop} (hq : ∀ a, Q1 a → Q2 a) : ∀ (l : List Oper) (a : Act), wpPure P ops C Q1 l a → wpPure P ops C Q2 l a
  | [], a, h => hq _ h
  | o :: l, a, h => by
    unfold wpPure at h ⊢
    split
    · rename_i hw
      rw [if_pos hw] at h
      obtain ⟨v, h1, h2⟩ := h
      exact ⟨v, h1, wpPure_mono hq l _ h2⟩
    · rename_i hw
      rw [if_neg hw] at h
      exact wpPure_mono hq l _ h
end
section
variable {P : Program} {n : Nat} {w0 : World} {Q : Exit → Fm → List Res → Prop} {K : Fm → List Res → Prop} {F : Fm} {L Lw : List Res} {l : List Oper} {N f : Nat} {S : List Nat}
def OKc (P : Program) (n : Nat) (w0 : World) (Lw : List Res) (K : Fm → List Res → Prop) (l : List Oper) (N f : Nat) (S : List Nat) (F : Fm) (L : List Res) : Prop :=
  ∀ w a, Fr n a F → Hp w0.heap.size w0 w L → anyC P l.toArray (fun _ w => Hp w0.heap.size w0 w Lw) (liftN n w0 K) f (maskS N S) a w
theorem OKc.use (h : OKc P n w0 Lw K l N f S F L) : ∀ w a, Fr n a F → Hp w0.heap.size w0 w L → anyC P l.toArray (fun _ w => Hp w0.heap.size w0 w Lw) (liftN n w0 K) f (maskS N S) a w := h
theorem OKc_end (hr : (Region.ready .any l.toArray (maskS N S)).isEmpty = true) (e : Ent w0 L Lw) (h : K F L) : OKc P n w0 Lw K l N 0 S F L :=
  fun w a hf hp => ⟨e.use w hp, List.isEmpty_iff.1 hr, rfl, F, L, hf, hp, h⟩
theorem OKc_stepG (kids : List (Nat × List Nat)) (hr : Region.ready .any l.toArray (maskS N S) = kids.map (·.1)) (hne : kids ≠ []) (e : Ent w0 L Lw) (h : ∀ k ∈ kids, maskS N k.2 = (maskS N S).setIfInBounds k.1 true ∧ ∃ o, l[k.1]? = some o ∧ OKx P n w0 (.seq []) l.toArray (fun F L => OKc P n w0 Lw K l N f k.2 F L) [o] F L) :
    OKc P n w0 Lw K l N (f + 1) S F L := by
  intro w a hf hp
  refine ⟨e.use w hp, fun h0 => ?_, fun i hi => ?_⟩
  · rw [hr] at h0
    exact absurd (List.map_eq_nil_iff.1 h0) hne
  · rw [hr] at hi
    obtain ⟨k, hk, rfl⟩ := List.mem_map.1 hi
    obtain ⟨hm, o, ho, hx⟩ := h k hk
    obtain ⟨_, h1⟩ := hx.use w a hf hp
    unfold wpOp
    have ho' : l.toArray[k.1]? = some o := by simpa using ho
    rw [ho']
    dsimp only
    rw [← hm]
    split
    · rename_i hw
      rw [if_pos hw] at h1
      refine .inl (Oper.wp_mono ?_ (wp_anyQ (fun c a w h => by cases h.1) (by rintro ⟨a, w, h, _⟩; cases h) h1))
      rintro a2 w2 ⟨_, _, F', L', h2, h3, h4⟩
      exact OKc.use h4 _ _ h2 h3
    · rename_i hw
      rw [if_neg hw] at h1
      obtain ⟨_, _, F', L', h2, h3, h4⟩ := h1
      exact OKc.use h4 _ _ h2 h3
theorem OKc_step1 {i1 : Nat} {S1 : List Nat} {o1 : Oper} (e : Ent w0 L Lw) (hr : Region.ready .any l.toArray (maskS N S) = [i1]) (m1 : kidOk l N S i1 S1 = true) (g1 : l[i1]? = some o1)
    (k1 : OKx P n w0 (.seq []) l.toArray (fun F L => OKc P n w0 Lw K l N f S1 F L) [o1] F L) : OKc P n w0 Lw K l N (f + 1) S F L :=
  OKc_stepG [(i1, S1)] hr (by simp) e fun k hk => by
    obtain rfl := List.mem_singleton.1 hk
    exact ⟨kidOk_eq m1, o1, g1, k1⟩
theorem OKc_step2 {i1 i2 : Nat} {S1 S2 : List Nat} {o1 o2 : Oper} (e : Ent w0 L Lw) (hr : Region.ready .any l.toArray (maskS N S) = [i1, i2]) (m1 : kidOk l N S i1 S1 = true) (m2 : kidOk l N S i2 S2 = true) (g1 : l[i1]? = some o1) (g2 : l[i2]? = some o2)
    (k1 : OKx P n w0 (.seq []) l.toArray (fun F L => OKc P n w0 Lw K l N f S1 F L) [o1] F L) (k2 : OKx P n w0 (.seq []) l.toArray (fun F L => OKc P n w0 Lw K l N f S2 F L) [o2] F L) : OKc P n w0 Lw K l N (f + 1) S F L :=
  OKc_stepG [(i1, S1), (i2, S2)] hr (by simp) e fun k hk => by
    simp only [List.mem_cons, List.not_mem_nil, or_false] at hk
    rcases hk with rfl | rfl
    · exact ⟨kidOk_eq m1, o1, g1, k1⟩
    · exact ⟨kidOk_eq m2, o2, g2, k2⟩
theorem OKc_pure {i : Nat} {S1 : List Nat} {o : Oper} (hB : (Region.noSelect l.toArray && stepB l.toArray [] (maskS N S) i) = true) (m1 : kidOk l N S i S1 = true) (g1 : l[i]? = some o)
    (k1 : OKx P n w0 .pure l.toArray (fun F1 _ => OKc P n w0 Lw K l N f S1 F1 L) [o] F Lw) : OKc P n w0 Lw K l N (f + 1) S F L := by
  intro w a hf hp
  simp only [stepB, Bool.and_eq_true, Bool.not_eq_true'] at hB
  obtain ⟨hsel, ⟨⟨hr, hfr⟩, _⟩, hW⟩ := hB
  have hr' : i ∈ Region.ready .any l.toArray (maskS N S) := by simpa using hr
  have hW' : ∀ j ∈ waiters l.toArray i, (maskS N S).getD j true = false := fun j hj => by
    have := List.all_eq_true.1 hW j hj
    simpa using this
  have hi : l.toArray[i]? = some o := by simpa using g1
  have h1 := k1.useP a hf
  have hQ : ∀ c a w, ¬ liftN n w0 K (.panic c) a w := fun c a w h => by cases h.1
  unfold wpPure at h1
  by_cases hw : Region.wanted o (yielded l.toArray a.tmps) = true
  · rw [if_pos hw] at h1
    obtain ⟨v, hv, F', h2, h3⟩ := h1
    refine anyC_first hi (Region.noSelect_spec hsel) hQ (fun _ _ _ h => h) _ _ a w (Region.free_spec hi hfr) hr' hW' (.inl ⟨hw, fun _ w' _ _ hc => hv w' hc⟩) ?_
    rw [← kidOk_eq m1]
    exact OKc.use h3 _ _ h2 hp
  · rw [if_neg hw] at h1
    obtain ⟨F', h2, h3⟩ := h1
    refine anyC_first hi (Region.noSelect_spec hsel) hQ (fun _ _ _ h => h) _ _ a w (Region.free_spec hi hfr) hr' hW' (.inr ⟨by simpa using hw, rfl⟩) ?_
    rw [← kidOk_eq m1]
    exact OKc.use h3 _ _ h2 hp
theorem OK_pureAnyK (N f : Nat) (E : List Nat) (Lw : List Res) {id : Nat} {le : List Oper} (hm : P.follows .mixedOrders = true) (hN : Nat.beq l.length N = true) (hB : (Region.noSelect l.toArray && pureLB l.toArray E (maskS N [])) = true) (hI : (E.all fun i => Nat.ble (i + 1) l.length) = true)
    (hS : ((listE E (maskS N [])).toList == (maskS N E).toList) = true) (hf : Nat.beq (f + E.length) N = true) (e : Ent w0 L Lw) (hE : pickO l E = le) (hK : ∀ F2 L2, K F2 L2 → Q .normal F2 L2)
    (h : OKx P n w0 .pure l.toArray (fun F1 _ => OKc P n w0 Lw K l N f E F1 L) le F Lw) : OK P n w0 Q (.region id l.toArray true) F L := by
  obtain rfl : l.length = N := Nat.eq_of_beq_eq_true hN
  have hf' := Nat.eq_of_beq_eq_true hf
  subst hE
  simp only [Bool.and_eq_true] at hB
  have hS' : listE E (maskS l.length []) = maskS l.length E := Array.toList_inj.1 (beq_iff_eq.1 hS)
  refine OK.mk' fun w a hfr hp => wp_region_any hm ?_
  have e0 : maskS l.length [] = Array.replicate l.toArray.size false := by
    unfold maskS
    apply Array.ext
    · simp
    · intro i h1 h2; simp [memN]
  have key := anyC_pureE (P := P) (ops := l.toArray) (Q := liftN n w0 K) (Cw := fun w => Hp w0.heap.size w0 w Lw) hB.1 (fun c a w h => by cases h.1) f E (pickO l E) (maskS l.length []) a w.drew (pickO_at l E hI) hB.2 (by
    have h1 := h.useP a hfr
    refine wpPure_mono ?_ _ _ h1
    rintro a' ⟨F', h2, h3⟩
    rw [hS']
    exact OKc.use h3 _ _ h2 hp.drew)
  rw [hf', e0] at key
  have key2 := anyC_any _ _ _ _ key
  have wm : ∀ (f : Nat) (ls : Array Bool) (a : Act) (w : World), wpAny P .any l.toArray (liftN n w0 K) f ls a w → wpAny P .any l.toArray (lift n w0 Q) f ls a w := by
    intro f
    induction f with
    | zero =>
      rintro ls a w ⟨h1, _, F', L', h2, h3, h4⟩
      exact ⟨h1, F', L', h2, h3, hK _ _ h4⟩
    | succ f ih =>
      rintro ls a w ⟨h1, h2⟩
      refine ⟨fun h0 => ?_, fun i hi => ?_⟩
      · obtain ⟨_, F', L', h2, h3, h4⟩ := h1 h0
        exact ⟨F', L', h2, h3, hK _ _ h4⟩
      · have h5 := h2 i hi
        unfold wpOp at h5 ⊢
        split
        · rename_i ho
          simp only [ho] at h5
          exact ih _ _ _ h5
        · rename_i o ho
          simp only [ho] at h5
          split
          · rename_i hw
            rw [if_pos hw] at h5
            rcases h5 with h5 | ⟨_, a9, w9, h9, _⟩
            · exact .inl (wp_anyQ (fun c a w h => by cases h.1) (by rintro ⟨a, w, h, _⟩; cases h) (Oper.wp_mono (fun a w h => ih _ _ _ h) h5))
            · cases h9
          · rename_i hw
            rw [if_neg hw] at h5
            exact ih _ _ _ h5
  have h2 := wm _ _ _ _ key2
  have e2 : l.toArray.size = l.length := by simp
  rw [e2]
  rw [e2] at h2
  exact h2
theorem OK_pureAny (N f : Nat) (E : List Nat) (Lw : List Res) {id : Nat} {le : List Oper} (hm : P.follows .mixedOrders = true) (hN : Nat.beq l.length N = true) (hB : (Region.noSelect l.toArray && pureLB l.toArray E (maskS N [])) = true) (hI : (E.all fun i => Nat.ble (i + 1) l.length) = true)
    (hS : ((listE E (maskS N [])).toList == (maskS N E).toList) = true) (hf : Nat.beq (f + E.length) N = true) (e : Ent w0 L Lw) (hE : pickO l E = le)
    (h : OKx P n w0 .pure l.toArray (fun F1 _ => OKc P n w0 Lw (Q .normal) l N f E F1 L) le F Lw) : OK P n w0 Q (.region id l.toArray true) F L :=
  OK_pureAnyK N f E Lw hm hN hB hI hS hf e hE (fun _ _ h => h) h
theorem OK_pureAny2 (N f : Nat) (E : List Nat) (Lw : List Res) (W : List Nat) (s1 s2 : Nat) (Mid : Value → Value → List Res → Prop) {id : Nat} {le : List Oper} (hm : P.follows .mixedOrders = true) (hN : Nat.beq l.length N = true) (hB : (Region.noSelect l.toArray && pureLB l.toArray E (maskS N [])) = true) (hI : (E.all fun i => Nat.ble (i + 1) l.length) = true)
    (hS : ((listE E (maskS N [])).toList == (maskS N E).toList) = true) (hf : Nat.beq (f + E.length) N = true) (e : Ent w0 L Lw) (hE : pickO l E = le)
    (h2 : ∀ v1 v2 L1 G, Mid v1 v2 L1 → Q .normal (upd (upd (over W G F) s1 v1) s2 v2) L1) (hQ : ∀ F2 L2 L3, Ent w0 L2 L3 → Q .normal F2 L3 → Q .normal F2 L2)
    (h : OKx P n w0 .pure l.toArray (fun F1 _ => OKc P n w0 Lw (fun F2 L2 => agree W F2 F ∧ ∃ L1, Ent w0 L2 L1 ∧ Mid (F2 (some s1)) (F2 (some s2)) L1) l N f E F1 L) le F Lw) : OK P n w0 Q (.region id l.toArray true) F L := by
  refine OK_pureAnyK N f E Lw hm hN hB hI hS hf e hE ?_ h
  rintro F2 L2 ⟨ha, L1, e1, hM⟩
  have hk := h2 _ _ L1 F2 hM
  rw [← over_upd ha, upd_self, upd_self] at hk
  exact hQ _ _ _ e1 hk
theorem thenQ_entN {c : Code} : ∀ F2 L2 L3, Ent w0 L2 L3 → thenQ (fun F L => OK P n w0 Q c F L) Q .normal F2 L3 → thenQ (fun F L => OK P n w0 Q c F L) Q .normal F2 L2 := fun F2 L2 L3 e h => by
  unfold thenQ at *
  exact OK_ent e h
end
attribute [irreducible] OKc
end Go.Proofs.YthnlnffmmioapaaDoor
namespace Go.Proofs.YthnlnffmmioapaaDoor
open Go.RowKit
def BytesW (l : List UInt8) (o : Obj) : Prop := ∃ C e lo hi, o = .cells C e (lo, hi) ∧ l.length ≤ lo ∧ ∀ (j : Nat) (b : UInt8), l[j]? = some b → C[j]? = some (.int .u8 (b.toNat : Int))
section
variable {P : Program} {n : Nat} {w0 : World} {K : Fm → List Res → Prop} {F : Fm} {L : List Res} {m : Md} {Lw : List Res} {ops : Array Oper} {rest : List Oper} {d : Option Nat} {ty : TypeId} {pos : String} {aft : Array Edge}
theorem OKx_convSW {src dst e : TypeId} {x : Operand} {s : List UInt8} [hE : Keeps w0 L Lw] (hx : rv n F x = .string (bOf s)) (hs : P.underlying src = some .string) (hd : P.underlying dst = some (.slice e)) (he : P.underlying e = some (.int .u8))
    (kk : ∀ g c, s.length ≤ c → OKx P n w0 (.seq Lw) ops K rest (updo F d (.slice (some ⟨g, 0, none⟩) s.length c)) (.obj g (BytesW s) :: L)) :
    OKx P n w0 (.seq Lw) ops K (⟨d, .convert src dst x, ty, pos, aft, none⟩ :: rest) F L := by
  have hz : (bOf s).size = s.length := bOf_size s
  refine OKx_act hE.ent fun w hp => ⟨_, w.drew.alloc (.cells (bytesRow (bOf s) (grownCap w (bOf s).size 0 e)) e ((bytesRow (bOf s) (grownCap w (bOf s).size 0 e)).size, (bytesRow (bOf s) (grownCap w (bOf s).size 0 e)).size + 1)), _, ?_, ?_, kk w.heap.size (grownCap w (bOf s).size 0 e) (by have := grownCap_ge w (bOf s).size 0 e;omega)⟩
  · simp only [execOp, hx, Sem.run_bind, run_bytes_of_string w src dst e (bOf s) hs hd he, Result.andThen]
    rfl
  · refine hp.drew.fresh (r := .obj w.heap.size (BytesW s)) ⟨hp.base, _, heap_alloc_new w.drew _, _, _, _, _, rfl, ?_, ?_⟩ ((Below.refl _ _).alloc (Nat.le_refl _) _) (fun j hj => by simp [Res.blk] at hj; subst hj; exact Nat.le_refl _)
    · unfold bytesRow
      simp [bOf]
    · intro j b hj
      have hlt := (List.getElem?_eq_some_iff.1 hj).1
      unfold bytesRow
      rw [Array.getElem?_append_left (by simpa [bOf] using hlt)]
      simp [bOf, hj]
theorem Hp.bytesW {B : Nat} {w : World} (hp : Hp B w0 w L) (i : Nat) {g k : Nat} {s : List UInt8} (hi : L[i]? = some (.obj g (BytesW s))) (hk : k < s.length) : w.cell? ⟨g, k, .none⟩ = some (.int .u8 ((s.getD k 0).toNat : Int)) ∧ w.frozen? ⟨g, k, .none⟩ = false := by
  obtain ⟨_, o, ho, C, e, lo, hi', rfl, hl, hC⟩ : B ≤ g ∧ ∃ o, w.heap[g]? = some o ∧ BytesW s o := hp.ok _ (List.mem_of_getElem? hi)
  have := hC k (s.getD k 0) (by rw [getD_lt _ _ _ hk]; exact List.getElem?_eq_getElem hk)
  constructor
  · simp [World.cell?, ho, this]
  · simp [World.frozen?, ho]
    omega
theorem OKx_ldW7 {t : TypeId} {z : Value} [T : TOne P t z] {x : Operand} {g k : Nat} {s : List UInt8} (i : Nat) (hx : rv n F x = .pointer (some ⟨g, k, none⟩)) (hi : L[i]? = some (.obj g (BytesW s))) (hk : k < s.length)
    (kk : OKx P n w0 m ops K rest (updo F d (.int .u8 ((s.getD k 0).toNat : Int))) L) : OKx P n w0 m ops K (⟨d, .load t x, ty, pos, aft, none⟩ :: rest) F L :=
  OKx_still (fun w hp _ _ _ _ => run_load1 T hx (hp.bytesW i hi hk).1 _ _ _ _) kk
theorem OKx_stW7 {t : TypeId} {z : Value} [T : TOne P t z] {x y : Operand} {g k : Nat} {b : UInt8} {s : List UInt8} [hE : Keeps w0 L Lw] (i : Nat) (hx : rv n F x = .pointer (some ⟨g, k, none⟩)) (hy : rv n F y = .int .u8 (b.toNat : Int)) (hi : L[i]? = some (.obj g (BytesW s))) (hk : k < s.length)
    (kk : OKx P n w0 (.seq Lw) ops K rest (updo F d undef) (L.set i (.obj g (BytesW (s.set k b))))) : OKx P n w0 (.seq Lw) ops K (⟨d, .store t x y, ty, pos, aft, none⟩ :: rest) F L := by
  refine OKx_act0 hE.ent fun w hp => ⟨w.setCell ⟨g, k, none⟩ (.int .u8 (b.toNat : Int)), _, ?_, ?_, kk⟩
  · have h := hp.bytesW i hi hk
    exact run_store1 T hx hy rfl rfl h.1 h.2 _ _ _ _
  · obtain ⟨hB, o, ho, C, e, lo, hi', rfl, hl, hC⟩ : w0.heap.size ≤ g ∧ ∃ o, w.heap[g]? = some o ∧ BytesW s o := hp.ok _ (List.mem_of_getElem? hi)
    refine hp.turn hi (r' := .obj g (BytesW (s.set k b))) ⟨rfl, rfl, rfl, by simp, fun j _ hj => heap_setCell_other w ⟨g, k, .none⟩ j _ (fun e => hj (by simp [Res.blk, e]))⟩ ⟨hB, .cells (C.setIfInBounds k (.int .u8 (b.toNat : Int))) e (lo, hi'), by simp [World.setCell, Array.getElem?_modify, ho], _, _, _, _, rfl, by rw [List.length_set]; exact hl, ?_⟩ (fun j hj => .inl hj)
    intro j c hj
    have hkC : k < C.size := by
      have := hC k (s.getD k 0) (by rw [getD_lt _ _ _ hk]; exact List.getElem?_eq_getElem hk)
      exact (Array.getElem?_eq_some_iff.1 this).1
    by_cases hjk : k = j
    · subst hjk
      rw [List.getElem?_set_self hk] at hj
      cases hj
      rw [Array.getElem?_setIfInBounds_self, if_pos hkC]
    · rw [List.getElem?_set_ne hjk] at hj
      rw [Array.getElem?_setIfInBounds_ne hjk]
      exact hC j c hj
theorem OKx_convWS {src dst e : TypeId} {x : Operand} {s : List UInt8} {N g c : Nat} (i : Nat) (hx : rv n F x = .slice (some ⟨g, 0, none⟩) N c) (hN : N = s.length) (hi : L[i]? = some (.obj g (BytesW s))) (hs : P.underlying src = some (.slice e)) (he : P.underlying e = some (.int .u8)) (hd : P.underlying dst = some .string)
    (kk : OKx P n w0 m ops K rest (updo F d (.string (bOf s))) L) : OKx P n w0 m ops K (⟨d, .convert src dst x, ty, pos, aft, none⟩ :: rest) F L := by
  subst hN
  exact OKx_still (fun w hp _ _ _ _ => by
    have hr : (convert src dst (.slice (some ⟨g, 0, none⟩) s.length c)).run P w = .ok (.string (bOf s)) w := by
      refine run_convert_bytes_back w src dst e ⟨g, 0, none⟩ c s hs he hd fun j hj => ?_
      rw [add_at, Nat.zero_add, (hp.bytesW i hi hj).1, getD_lt _ _ _ hj]
    simp [execOp, hx, hr, Sem.run_bind, Result.andThen]) kk
end
theorem Hp.bytesSl {B : Nat} {w0 w : World} {L : List Res} (hp : Hp B w0 w L) (i : Nat) {g c : Nat} {s : List UInt8} (hi : L[i]? = some (.obj g (BytesW s))) (hc : s.length ≤ c) (hs : s.length ≤ 140737488355328) : Sl w (.slice (some ⟨g, 0, .none⟩) s.length c) 1 s.length (fun j => .int .u8 ((s.getD j 0).toNat : Int)) :=
  ⟨hs, ⟨_, _, rfl, .inr ⟨_, _, rfl, fun j hj => by rw [Nat.zero_add]; exact (hp.bytesW i hi (by omega)).1⟩⟩, fun a m' c' h => by cases h; exact hc⟩
set_option maxRecDepth 100000 in
set_option maxHeartbeats 4000000 in
theorem indexF_str_sat (v : Value) (N : Nat) (e : Nat → Value) (p : Nat → Bool) (g : FuncId) (cs : Array Value) (w : World) (h : Sl w v 1 N e) (hf : ∀ k, k < N → ∀ w1, Below w.heap.size w w1 → SatV Tryd.prog g (e k :: cs.toList) w1 (.bool (p k))) :
    Sat Tryd.prog 75 [v, .func (.func g) #[] cs] w (IdxR p N) := by
  have hN := h.bound
  refine SatL.of 19 [4] Tryd.func75 (by kernel_rfl) (by kernel_rfl) rfl rfl rfl rfl ?_
  repeat' (first|(apply OK_seq)|(apply thenQ_n)|(apply OK_region)|(apply OKx_nilK)|(apply OK_block)|(apply blockQ_n)|(apply blockQ_s)|(apply thenQ_e)|(apply blockQ_e;exact rfl)|(apply thenQ_r)|(apply blockQ_r)|(apply OK_condT;exact rfl)|(apply OK_condF;exact rfl)|(apply OK_skip)|(apply OK_exit)|(apply OK_ret)|(apply OKx_move;(conv=>lhs;whnf)<;>exact rfl)|(apply OKx_assign;(conv=>lhs;whnf)<;>exact rfl)|(apply OKx_ldB;exact rfl;(first | exact at0|exact at1|exact at2|exact at3|exact at4|exact at5|exact at6|exact at7);exact rfl)|(apply OKx_ldR;(conv=>lhs;whnf)<;>exact rfl;(with_reducible assumption))|(apply OKx_len;exact rfl)|(apply OKx_lenR;(conv=>lhs;whnf)<;>exact rfl;(with_reducible assumption))|(apply OKx_lenR2;(conv=>lhs;whnf)<;>exact rfl;(with_reducible assumption))|(apply OKx_lenO;(conv=>lhs;whnf)<;>exact rfl;(first | exact at0|exact at1|exact at2|exact at3|exact at4|exact at5|exact at6|exact at7))|(apply OKx_lss;exact rfl;exact rfl;all_goals (intro _; try (exfalso;omega)))|(apply OKx_idxO;exact rfl;exact rfl;omega)|(apply OKx_idxR;(conv=>lhs;whnf)<;>exact rfl;(with_reducible assumption);exact rfl;omega;intro _ _)|(apply OKx_idxOz;exact rfl;exact rfl;omega;omega)|(apply OKx_idxRz;(conv=>lhs;whnf)<;>exact rfl;(with_reducible assumption);exact rfl;omega;omega;intro _ _)|(apply OKx_inc;exact rfl;exact rfl;omega)|(apply OKx_addN;exact rfl;exact rfl;omega)|(apply OKx_add;exact rfl;exact rfl;omega;omega))
  refine OK_loop1 8 [4, 5, 8, 9, 10, 11, 12, 13, 14, 15, 16, 17, 18] (fun m v L => ∃ k : Nat, k + m = N ∧ v = .int .i64 (k : Int) ∧ (∀ j, j < k → p j = false) ∧ L = []) N [] (Ent.refl _ _) ⟨0, by omega, rfl, fun j hj => absurd hj (by omega), rfl⟩ ?_
  rintro m v' L G ⟨k, hm, rfl, H, rfl⟩
  repeat' (first|(apply OK_seq)|(apply thenQ_n)|(apply OK_region)|(refine OKx_callB (f := g) rfl rfl rfl (fun w hp => hf k (by omega) w hp.below) ?_ ?_ <;> intro hq)|(apply OKx_nilK)|(apply OK_block)|(apply blockQ_n)|(apply blockQ_s)|(apply thenQ_e)|(apply blockQ_e;exact rfl)|(apply thenQ_r)|(apply blockQ_r)|(apply OK_condT;exact rfl)|(apply OK_condF;exact rfl)|(apply OK_skip)|(apply OK_exit)|(apply OK_ret)|(apply OKx_move;(conv=>lhs;whnf)<;>exact rfl)|(apply OKx_assign;(conv=>lhs;whnf)<;>exact rfl)|(apply OKx_ldB;exact rfl;(first | exact at0|exact at1|exact at2|exact at3|exact at4|exact at5|exact at6|exact at7);exact rfl)|(apply OKx_ldR;(conv=>lhs;whnf)<;>exact rfl;(with_reducible assumption))|(apply OKx_len;exact rfl)|(apply OKx_lenR;(conv=>lhs;whnf)<;>exact rfl;(with_reducible assumption))|(apply OKx_lenR2;(conv=>lhs;whnf)<;>exact rfl;(with_reducible assumption))|(apply OKx_lenO;(conv=>lhs;whnf)<;>exact rfl;(first | exact at0|exact at1|exact at2|exact at3|exact at4|exact at5|exact at6|exact at7))|(apply OKx_lss;exact rfl;exact rfl;all_goals (intro _; try (exfalso;omega)))|(apply OKx_idxO;exact rfl;exact rfl;omega)|(apply OKx_idxR;(conv=>lhs;whnf)<;>exact rfl;(with_reducible assumption);exact rfl;omega;intro _ _)|(apply OKx_idxOz;exact rfl;exact rfl;omega;omega)|(apply OKx_idxRz;(conv=>lhs;whnf)<;>exact rfl;(with_reducible assumption);exact rfl;omega;omega;intro _ _)|(apply OKx_inc;exact rfl;exact rfl;omega)|(apply OKx_addN;exact rfl;exact rfl;omega)|(apply OKx_add;exact rfl;exact rfl;omega;omega))
  · refine bodyQ_r1 (by ((conv=>lhs;whnf)<;>exact rfl)) ?_
    exact ⟨_, Ent.refl _ _, _, rfl, rfl, by rw [anyN_hit (by omega) hq, decide_eq_true (by omega)]⟩
  · refine ⟨by (repeat' (first | refine agree_upd rfl ?_ | exact agree_over | exact agree_refl _ _ | refine agree_over2 rfl ?_)), m - 1, _, by omega, Ent.refl _ _, ?_⟩
    refine ⟨k + 1, by omega, rfl, fun j hj => ?_, rfl⟩
    by_cases hjk : j < k
    · exact H j hjk
    · obtain rfl : j = k := by omega
      exact hq
  · refine bodyQ_r1 (by ((conv=>lhs;whnf)<;>exact rfl)) ?_
    exact ⟨_, Ent.refl _ _, _, rfl, rfl, by rw [anyN_none fun j hj => H j (by omega)]; rfl⟩
set_option maxRecDepth 100000 in
set_option maxHeartbeats 4000000 in
theorem containsF_str_sat (v : Value) (N : Nat) (e : Nat → Value) (p : Nat → Bool) (g : FuncId) (cs : Array Value) (w : World) (h : Sl w v 1 N e) (hf : ∀ k, k < N → ∀ w1, Below w.heap.size w w1 → SatV Tryd.prog g (e k :: cs.toList) w1 (.bool (p k))) :
    SatV Tryd.prog 56 [v, .func (.func g) #[] cs] w (.bool (anyN p N)) := by
  refine SatL.of 9 [4] Tryd.func56 (by kernel_rfl) (by kernel_rfl) rfl rfl rfl rfl ?_
  repeat' (first|(apply OK_seq)|(apply thenQ_n)|(apply OK_region)|(apply OKx_gc 75;exact rfl; refine OKx_call (f := 75) rfl rfl (fun w hp => indexF_str_sat v N e p g cs w (h.below hp.below) (fun k hk w1 hb => hf k hk w1 (below_on hp.below hb))) ?_; rintro _ _ ⟨i, rfl, rfl, hi⟩)|(apply OKx_nilK)|(apply OK_block)|(apply blockQ_n)|(apply blockQ_s)|(apply thenQ_e)|(apply blockQ_e;exact rfl)|(apply thenQ_r)|(apply blockQ_r)|(apply OK_condT;exact rfl)|(apply OK_condF;exact rfl)|(apply OK_skip)|(apply OK_exit)|(apply OK_ret)|(apply OKx_move;(conv=>lhs;whnf)<;>exact rfl)|(apply OKx_assign;(conv=>lhs;whnf)<;>exact rfl)|(apply OKx_geq;exact rfl;exact rfl;all_goals (intro _; try (exfalso;omega))))
  all_goals
    refine bodyQ_r1 (by ((conv=>lhs;whnf)<;>exact rfl)) ?_
    exact ⟨_, Ent.refl _ _, bool_eq (by rw [hi]; simp;omega), rfl⟩
theorem setD (l : List UInt8) (i : Nat) (b : UInt8) (p : Nat) (hi : i < l.length) : (l.set i b).getD p 0 = if i = p then b else l.getD p 0 := by
  rw [List.getD_eq_getElem?_getD, List.getD_eq_getElem?_getD, List.getElem?_set]
  by_cases h : i = p
  · subst h
    rw [if_pos rfl, if_pos rfl, if_pos hi]
    rfl
  · rw [if_neg h, if_neg h]
end Go.Proofs.YthnlnffmmioapaaDoor
