/-
  Part 13 of the proof: Anx, Cut. No statement of the seat is proved here.
-/
import Derived.Test.YtbooccpfdekaiaaMHRv0712
namespace Go.Proofs.Ytbooccpfdekaiaa
open Go.RowKit
section
variable {P : Program} {ops : Array Oper} {Q : Exit → Act → World → Prop}
def pureLB (ops : Array Oper) : List Nat → Array Bool → Bool
  | [], _ => true
  | i :: E, listed => stepB ops [] listed i && pureLB ops E (listed.setIfInBounds i true)
def listE (E : List Nat) (listed : Array Bool) : Array Bool := E.foldl (fun l i => l.setIfInBounds i true) listed
theorem anyC_pureE {Cw : World → Prop} (hsel : Region.noSelect ops = true) (hQ : ∀ c a w, ¬ Q (.panic c) a w) (fuel : Nat) : ∀ (E : List Nat) (lo : List Oper) (listed : Array Bool) (a : Act) (w : World), E.map (fun t => ops[t]?) = lo.map some → pureLB ops E listed = true →
    wpPure P ops Cw (fun a' => anyC P ops (fun _ w => Cw w) Q fuel (listE E listed) a' w) lo a → anyC P ops (fun _ w => Cw w) Q (fuel + E.length) listed a w
  | [], lo, listed, a, w, hm, _, h => by
    obtain rfl : lo = [] := by simpa using hm.symm
    exact h
  | i :: E, lo, listed, a, w, hm, hB, h => by
    cases lo with
    | nil => simp at hm
    | cons o lo =>
      simp only [List.map_cons, List.cons.injEq] at hm
      obtain ⟨hi, hm⟩ := hm
      simp only [pureLB, stepB, Bool.and_eq_true, Bool.not_eq_true'] at hB
      obtain ⟨⟨⟨⟨hr, hf⟩, _⟩, hW⟩, hB'⟩ := hB
      have hr' : i ∈ Region.ready .any ops listed := by simpa using hr
      have hW' : ∀ j ∈ waiters ops i, listed.getD j true = false := fun j hj => by
        have := List.all_eq_true.1 hW j hj
        simpa using this
      rw [List.length_cons, ← Nat.add_assoc]
      unfold wpPure at h
      by_cases hw : Region.wanted o (yielded ops a.tmps) = true
      · rw [if_pos hw] at h
        obtain ⟨v, hv, hk⟩ := h
        exact anyC_first hi (Region.noSelect_spec hsel) hQ (fun _ _ _ h => h) _ listed a w (Region.free_spec hi hf) hr' hW' (.inl ⟨hw, fun _ w' _ _ hc => hv w' hc⟩) (anyC_pureE hsel hQ fuel E lo _ _ w hm hB' hk)
      · rw [if_neg hw] at h
        exact anyC_first hi (Region.noSelect_spec hsel) hQ (fun _ _ _ h => h) _ listed a w (Region.free_spec hi hf) hr' hW' (.inr ⟨by simpa using hw, rfl⟩) (anyC_pureE hsel hQ fuel E lo _ _ w hm hB' h)
theorem wpPure_mono {C : World → Prop} {Q1 Q2 : Act → Prop} (hq : ∀ a, Q1 a → Q2 a) : ∀ (l : List Oper) (a : Act), wpPure P ops C Q1 l a → wpPure P ops C Q2 l a
  | [], a, h => hq _ h
  | o :: l, a, h => by
    unfold wpPure at h ⊢
    split
    · rename_i hw
      rw [if_pos hw] at h
      obtain ⟨v, h1, h2⟩ := h
      exact ⟨v, h1, wpPure_mono hq l _ h2⟩
    · rename_i hw
      rw [if_neg hw] at h
      exact wpPure_mono hq l _ h
end
section
variable {P : Program} {n : Nat} {w0 : World} {Q : Exit → Fm → List Res → Prop} {K : Fm → List Res → Prop} {F : Fm} {L Lw : List Res} {l : List Oper} {N f : Nat} {S : List Nat}
def OKc (P : Program) (n : Nat) (w0 : World) (Lw : List Res) (K : Fm → List Res → Prop) (l : List Oper) (N f : Nat) (S : List Nat) (F : Fm) (L : List Res) : Prop :=
  ∀ w a, Fr n a F → Hp w0.heap.size w0 w L → anyC P l.toArray (fun _ w => Hp w0.heap.size w0 w Lw) (liftN n w0 K) f (maskS N S) a w
theorem OKc.use (h : OKc P n w0 Lw K l N f S F L) : ∀ w a, Fr n a F → Hp w0.heap.size w0 w L → anyC P l.toArray (fun _ w => Hp w0.heap.size w0 w Lw) (liftN n w0 K) f (maskS N S) a w := h
theorem OKc_end (hr : (Region.ready .any l.toArray (maskS N S)).isEmpty = true) (e : Ent w0 L Lw) (h : K F L) : OKc P n w0 Lw K l N 0 S F L :=
  fun w a hf hp => ⟨e.use w hp, List.isEmpty_iff.1 hr, rfl, F, L, hf, hp, h⟩
theorem OKc_stepG (kids : List (Nat × List Nat)) (hr : Region.ready .any l.toArray (maskS N S) = kids.map (·.1)) (hne : kids ≠ []) (e : Ent w0 L Lw) (h : ∀ k ∈ kids, maskS N k.2 = (maskS N S).setIfInBounds k.1 true ∧ ∃ o, l[k.1]? = some o ∧ OKx P n w0 (.seq []) l.toArray (fun F L => OKc P n w0 Lw K l N f k.2 F L) [o] F L) :
    OKc P n w0 Lw K l N (f + 1) S F L := by
  intro w a hf hp
  refine ⟨e.use w hp, fun h0 => ?_, fun i hi => ?_⟩
  · rw [hr] at h0
    exact absurd (List.map_eq_nil_iff.1 h0) hne
  · rw [hr] at hi
    obtain ⟨k, hk, rfl⟩ := List.mem_map.1 hi
    obtain ⟨hm, o, ho, hx⟩ := h k hk
    obtain ⟨_, h1⟩ := hx.use w a hf hp
    unfold wpOp
    have ho' : l.toArray[k.1]? = some o := by simpa using ho
    rw [ho']
    dsimp only
    rw [← hm]
    split
    · rename_i hw
      rw [if_pos hw] at h1
      refine .inl (Oper.wp_mono ?_ (wp_anyQ (fun c a w h => by cases h.1) (by rintro ⟨a, w, h, _⟩; cases h) h1))
      rintro a2 w2 ⟨_, _, F', L', h2, h3, h4⟩
      exact OKc.use h4 _ _ h2 h3
    · rename_i hw
      rw [if_neg hw] at h1
      obtain ⟨_, _, F', L', h2, h3, h4⟩ := h1
      exact OKc.use h4 _ _ h2 h3
theorem OKc_step1 {i1 : Nat} {S1 : List Nat} {o1 : Oper} (e : Ent w0 L Lw) (hr : Region.ready .any l.toArray (maskS N S) = [i1]) (m1 : kidOk l N S i1 S1 = true) (g1 : l[i1]? = some o1)
    (k1 : OKx P n w0 (.seq []) l.toArray (fun F L => OKc P n w0 Lw K l N f S1 F L) [o1] F L) : OKc P n w0 Lw K l N (f + 1) S F L :=
  OKc_stepG [(i1, S1)] hr (by simp) e fun k hk => by
    obtain rfl := List.mem_singleton.1 hk
    exact ⟨kidOk_eq m1, o1, g1, k1⟩
theorem OKc_step2 {i1 i2 : Nat} {S1 S2 : List Nat} {o1 o2 : Oper} (e : Ent w0 L Lw) (hr : Region.ready .any l.toArray (maskS N S) = [i1, i2]) (m1 : kidOk l N S i1 S1 = true) (m2 : kidOk l N S i2 S2 = true) (g1 : l[i1]? = some o1) (g2 : l[i2]? = some o2)
    (k1 : OKx P n w0 (.seq []) l.toArray (fun F L => OKc P n w0 Lw K l N f S1 F L) [o1] F L) (k2 : OKx P n w0 (.seq []) l.toArray (fun F L => OKc P n w0 Lw K l N f S2 F L) [o2] F L) : OKc P n w0 Lw K l N (f + 1) S F L :=
  OKc_stepG [(i1, S1), (i2, S2)] hr (by simp) e fun k hk => by
    simp only [List.mem_cons, List.not_mem_nil, or_false] at hk
    rcases hk with rfl | rfl
    · exact ⟨kidOk_eq m1, o1, g1, k1⟩
    · exact ⟨kidOk_eq m2, o2, g2, k2⟩
theorem OKc_pure {i : Nat} {S1 : List Nat} {o : Oper} (hB : (Region.noSelect l.toArray && stepB l.toArray [] (maskS N S) i) = true) (m1 : kidOk l N S i S1 = true) (g1 : l[i]? = some o)
    (k1 : OKx P n w0 .pure l.toArray (fun F1 _ => OKc P n w0 Lw K l N f S1 F1 L) [o] F Lw) : OKc P n w0 Lw K l N (f + 1) S F L := by
  intro w a hf hp
  simp only [stepB, Bool.and_eq_true, Bool.not_eq_true'] at hB
  obtain ⟨hsel, ⟨⟨hr, hfr⟩, _⟩, hW⟩ := hB
  have hr' : i ∈ Region.ready .any l.toArray (maskS N S) := by simpa using hr
  have hW' : ∀ j ∈ waiters l.toArray i, (maskS N S).getD j true = false := fun j hj => by
    have := List.all_eq_true.1 hW j hj
    simpa using this
  have hi : l.toArray[i]? = some o := by simpa using g1
  have h1 := k1.useP a hf
  have hQ : ∀ c a w, ¬ liftN n w0 K (.panic c) a w := fun c a w h => by cases h.1
  unfold wpPure at h1
  by_cases hw : Region.wanted o (yielded l.toArray a.tmps) = true
  · rw [if_pos hw] at h1
    obtain ⟨v, hv, F', h2, h3⟩ := h1
    refine anyC_first hi (Region.noSelect_spec hsel) hQ (fun _ _ _ h => h) _ _ a w (Region.free_spec hi hfr) hr' hW' (.inl ⟨hw, fun _ w' _ _ hc => hv w' hc⟩) ?_
    rw [← kidOk_eq m1]
    exact OKc.use h3 _ _ h2 hp
  · rw [if_neg hw] at h1
    obtain ⟨F', h2, h3⟩ := h1
    refine anyC_first hi (Region.noSelect_spec hsel) hQ (fun _ _ _ h => h) _ _ a w (Region.free_spec hi hfr) hr' hW' (.inr ⟨by simpa using hw, rfl⟩) ?_
    rw [← kidOk_eq m1]
    exact OKc.use h3 _ _ h2 hp
theorem OK_pureAnyK (N f : Nat) (E : List Nat) (Lw : List Res) {id : Nat} {le : List Oper} (hm : P.follows .mixedOrders = true) (hN : Nat.beq l.length N = true) (hB : (Region.noSelect l.toArray && pureLB l.toArray E (maskS N [])) = true) (hI : (E.all fun i => Nat.ble (i + 1) l.length) = true)
    (hS : ((listE E (maskS N [])).toList == (maskS N E).toList) = true) (hf : Nat.beq (f + E.length) N = true) (e : Ent w0 L Lw) (hE : pickO l E = le) (hK : ∀ F2 L2, K F2 L2 → Q .normal F2 L2)
    (h : OKx P n w0 .pure l.toArray (fun F1 _ => OKc P n w0 Lw K l N f E F1 L) le F Lw) : OK P n w0 Q (.region id l.toArray true) F L := by
  obtain rfl : l.length = N := Nat.eq_of_beq_eq_true hN
  have hf' := Nat.eq_of_beq_eq_true hf
  subst hE
  simp only [Bool.and_eq_true] at hB
  have hS' : listE E (maskS l.length []) = maskS l.length E := Array.toList_inj.1 (beq_iff_eq.1 hS)
  refine OK.mk' fun w a hfr hp => wp_region_any hm ?_
  have e0 : maskS l.length [] = Array.replicate l.toArray.size false := by
    unfold maskS
    apply Array.ext
    · simp
    · intro i h1 h2; simp [memN]
  have key := anyC_pureE (P := P) (ops := l.toArray) (Q := liftN n w0 K) (Cw := fun w => Hp w0.heap.size w0 w Lw) hB.1 (fun c a w h => by cases h.1) f E (pickO l E) (maskS l.length []) a w.drew (pickO_at l E hI) hB.2 (by
    have h1 := h.useP a hfr
    refine wpPure_mono ?_ _ _ h1
    rintro a' ⟨F', h2, h3⟩
    rw [hS']
    exact OKc.use h3 _ _ h2 hp.drew)
  rw [hf', e0] at key
  have key2 := anyC_any _ _ _ _ key
  have wm : ∀ (f : Nat) (ls : Array Bool) (a : Act) (w : World), wpAny P .any l.toArray (liftN n w0 K) f ls a w → wpAny P .any l.toArray (lift n w0 Q) f ls a w := by
    intro f
    induction f with
    | zero =>
      rintro ls a w ⟨h1, _, F', L', h2, h3, h4⟩
      exact ⟨h1, F', L', h2, h3, hK _ _ h4⟩
    | succ f ih =>
      rintro ls a w ⟨h1, h2⟩
      refine ⟨fun h0 => ?_, fun i hi => ?_⟩
      · obtain ⟨_, F', L', h2, h3, h4⟩ := h1 h0
        exact ⟨F', L', h2, h3, hK _ _ h4⟩
      · have h5 := h2 i hi
        unfold wpOp at h5 ⊢
        split
        · rename_i ho
          simp only [ho] at h5
          exact ih _ _ _ h5
        · rename_i o ho
          simp only [ho] at h5
          split
          · rename_i hw
            rw [if_pos hw] at h5
            rcases h5 with h5 | ⟨_, a9, w9, h9, _⟩
            · exact .inl (wp_anyQ (fun c a w h => by cases h.1) (by rintro ⟨a, w, h, _⟩; cases h) (Oper.wp_mono (fun a w h => ih _ _ _ h) h5))
            · cases h9
          · rename_i hw
            rw [if_neg hw] at h5
            exact ih _ _ _ h5
  have h2 := wm _ _ _ _ key2
  have e2 : l.toArray.size = l.length := by simp
  rw [e2]
  rw [e2] at h2
  exact h2
theorem OK_pureAny2 (N f : Nat) (E : List Nat) (Lw : List Res) (W : List Nat) (s1 s2 : Nat) (Mid : Value → Value → List Res → Prop) {id : Nat} {le : List Oper} (hm : P.follows .mixedOrders = true) (hN : Nat.beq l.length N = true) (hB : (Region.noSelect l.toArray && pureLB l.toArray E (maskS N [])) = true) (hI : (E.all fun i => Nat.ble (i + 1) l.length) = true)
    (hS : ((listE E (maskS N [])).toList == (maskS N E).toList) = true) (hf : Nat.beq (f + E.length) N = true) (e : Ent w0 L Lw) (hE : pickO l E = le)
    (h2 : ∀ v1 v2 L1 G, Mid v1 v2 L1 → Q .normal (upd (upd (over W G F) s1 v1) s2 v2) L1) (hQ : ∀ F2 L2 L3, Ent w0 L2 L3 → Q .normal F2 L3 → Q .normal F2 L2)
    (h : OKx P n w0 .pure l.toArray (fun F1 _ => OKc P n w0 Lw (fun F2 L2 => agree W F2 F ∧ ∃ L1, Ent w0 L2 L1 ∧ Mid (F2 (some s1)) (F2 (some s2)) L1) l N f E F1 L) le F Lw) : OK P n w0 Q (.region id l.toArray true) F L := by
  refine OK_pureAnyK N f E Lw hm hN hB hI hS hf e hE ?_ h
  rintro F2 L2 ⟨ha, L1, e1, hM⟩
  have hk := h2 _ _ L1 F2 hM
  rw [← over_upd ha, upd_self, upd_self] at hk
  exact hQ _ _ _ e1 hk
theorem thenQ_entN {c : Code} : ∀ F2 L2 L3, Ent w0 L2 L3 → thenQ (fun F L => OK P n w0 Q c F L) Q .normal F2 L3 → thenQ (fun F L => OK P n w0 Q c F L) Q .normal F2 L2 := fun F2 L2 L3 e h => by
  unfold thenQ at *
  exact OK_ent e h
end
attribute [irreducible] OKc
end Go.Proofs.Ytbooccpfdekaiaa
namespace Go.Proofs.Ytbooccpfdekaiaa
open Go.RowKit
def Hold (p : Prop) : Prop := p
section
variable {P : Program} {n : Nat} {w0 : World} {Q : Exit → Fm → List Res → Prop} {F : Fm} {L : List Res}
theorem OK_cut (W : List Nat) (s : Nat) (V : Value) (L1 : List Res) {c c2 : Code} (h1 : Hold (OK P n w0 (thenQ (fun F' L' => agree W F' F ∧ F' (some s) = V ∧ Ent w0 L' L1) Q) c F L)) (h2 : ∀ G, OK P n w0 Q c2 (upd (over W G F) s V) L1) : OK P n w0 (thenQ (fun F' L' => OK P n w0 Q c2 F' L') Q) c F L := by
  unfold Hold at h1
  refine OK_mono h1 fun e F' L' h => ?_
  cases e with
  | normal =>
    unfold thenQ at h ⊢
    obtain ⟨ha, hs, he⟩ := h
    have hk := h2 F'
    have e1 : upd (over W F' F) s V = F' := by rw [← over_upd ha, ← hs, upd_self]
    rw [e1] at hk
    exact OK_ent he hk
  | _ => unfold thenQ at h ⊢; exact h
theorem OK_cutL (W : List Nat) (s : Nat) (V : Value) {c c2 : Code} (h1 : Hold (OK P n w0 (thenQ (fun F' L' => agree W F' F ∧ F' (some s) = V ∧ Ent w0 L' L) Q) c F L)) (h2 : ∀ G, OK P n w0 Q c2 (upd (over W G F) s V) L) : OK P n w0 (thenQ (fun F' L' => OK P n w0 Q c2 F' L') Q) c F L := OK_cut W s V L h1 h2
end
section
variable {P : Program} {n : Nat} {w0 : World} {K : Fm → List Res → Prop} {F : Fm} {L0 Lw : List Res} {ops : Array Oper} {rest : List Oper} {d : Option Nat} {ty : TypeId} {pos : String} {aft : Array Edge}
theorem OKx_stBA0 {t sz : Nat} {zs : List Value} [T : TAgg P t sz zs] {e : TypeId} {g : Nat} {cs cs' : List Value} [hE : Keeps w0 (.box e g cs :: L0) Lw] (hsz : (P.info? t).map (·.size) = some sz) {x y : Operand} (hx : rv n F x = .pointer (some ⟨g, 0, none⟩)) (hy : rv n F y = .agg cs'.toArray) (h1 : ∀ u ∈ cs', u.oneCell' = true) (hl : cs'.length = cs.length) (hl2 : cs'.length = sz)
    (kk : OKx P n w0 (.seq Lw) ops K rest (updo F d undef) (.box e g cs' :: L0)) : OKx P n w0 (.seq Lw) ops K (⟨d, .store t x y, ty, pos, aft, none⟩ :: rest) F (.box e g cs :: L0) :=
  OKx_stBA hsz 0 hx hy (List.all_eq_true.2 h1) rfl (by rw [List.toList_toArray, hl]; exact Nat.beq_refl _) (by rw [List.toList_toArray, hl2]; exact Nat.beq_refl _) rfl kk
end
theorem Hold.of {p : Prop} (h : p) : Hold p := h
attribute [irreducible] Hold
end Go.Proofs.Ytbooccpfdekaiaa
