/-
  Part 25 of the proof: Anz. No statement of the seat is proved here.
-/
import Derived.Test.YtdigdmnnjbndlaaGreatDoorMHTa3924
namespace Go.Proofs.YtdigdmnnjbndlaaGreatDoor
open Go.RowKit
def waitsB (ops : Array Oper) (T i : Nat) : Bool := memN T (waiters ops i) && !Nat.beq i T
theorem waitsB_at {ops : Array Oper} {T i : Nat} (h : waitsB ops T i = true) : T ∈ waiters ops i ∧ i ≠ T := by
  simp only [waitsB, Bool.and_eq_true, Bool.not_eq_true'] at h
  exact ⟨(memN_iff _ _).1 h.1, fun e => by have h2 := h.2; rw [e, Nat.beq_refl] at h2; cases h2⟩
theorem till_set {Cw : World → Prop} {T i : Nat} (h : i ≠ T) : ∀ (listed : Array Bool) (w : World), listed.getD i true = false → ((listed.setIfInBounds i true).getD T true = false → Cw w) → (listed.getD T true = false → Cw w) := fun listed w _ hc h0 => hc (by
  rw [← h0]
  simp only [Array.getD_eq_getD_getElem?, Array.getElem?_setIfInBounds, if_neg h])
section
variable {P : Program} {ops : Array Oper} {Q : Exit → Act → World → Prop}
theorem anyD_pureE {Cw : World → Prop} {T : Nat} (hsel : Region.noSelect ops = true) (hQ : ∀ c a w, ¬ Q (.panic c) a w) (fuel : Nat) : ∀ (E : List Nat) (lo : List Oper) (listed : Array Bool) (a : Act) (w : World), E.map (fun t => ops[t]?) = lo.map some → pureLB ops E listed = true → (E.all (waitsB ops T)) = true →
    wpPure P ops Cw (fun a' => anyC P ops (fun l w => l.getD T true = false → Cw w) Q fuel (listE E listed) a' w) lo a → anyC P ops (fun l w => l.getD T true = false → Cw w) Q (fuel + E.length) listed a w
  | [], lo, listed, a, w, hm, _, _, h => by
    obtain rfl : lo = [] := by simpa using hm.symm
    exact h
  | i :: E, lo, listed, a, w, hm, hB, hT, h => by
    cases lo with
    | nil => simp at hm
    | cons o lo =>
      simp only [List.map_cons, List.cons.injEq] at hm
      obtain ⟨hi, hm⟩ := hm
      simp only [pureLB, stepB, Bool.and_eq_true, Bool.not_eq_true'] at hB
      obtain ⟨⟨⟨⟨hr, hf⟩, _⟩, hW⟩, hB'⟩ := hB
      rw [List.all_cons, Bool.and_eq_true] at hT
      obtain ⟨hT1, hT⟩ := hT
      obtain ⟨hTw, hTi⟩ := waitsB_at hT1
      have hr' : i ∈ Region.ready .any ops listed := by simpa using hr
      have hW' : ∀ j ∈ waiters ops i, listed.getD j true = false := fun j hj => by
        have := List.all_eq_true.1 hW j hj
        simpa using this
      rw [List.length_cons, ← Nat.add_assoc]
      unfold wpPure at h
      by_cases hw : Region.wanted o (yielded ops a.tmps) = true
      · rw [if_pos hw] at h
        obtain ⟨v, hv, hk⟩ := h
        exact anyC_first hi (Region.noSelect_spec hsel) hQ (till_set hTi) _ listed a w (Region.free_spec hi hf) hr' hW' (.inl ⟨hw, fun _ w' _ hl hc => hv w' (hc (hl _ hTw))⟩) (anyD_pureE hsel hQ fuel E lo _ _ w hm hB' hT hk)
      · rw [if_neg hw] at h
        exact anyC_first hi (Region.noSelect_spec hsel) hQ (till_set hTi) _ listed a w (Region.free_spec hi hf) hr' hW' (.inr ⟨by simpa using hw, rfl⟩) (anyD_pureE hsel hQ fuel E lo _ _ w hm hB' hT h)
end
section
variable {P : Program} {n : Nat} {w0 : World} {Q : Exit → Fm → List Res → Prop} {K : Fm → List Res → Prop} {F : Fm} {L Lw : List Res} {l : List Oper} {N f T : Nat} {S : List Nat}
def OKd (P : Program) (n : Nat) (w0 : World) (T : Nat) (Lw : List Res) (K : Fm → List Res → Prop) (l : List Oper) (N f : Nat) (S : List Nat) (F : Fm) (L : List Res) : Prop :=
  ∀ w a, Fr n a F → Hp w0.heap.size w0 w L → anyC P l.toArray (fun l w => l.getD T true = false → Hp w0.heap.size w0 w Lw) (liftN n w0 K) f (maskS N S) a w
theorem OKd.use (h : OKd P n w0 T Lw K l N f S F L) : ∀ w a, Fr n a F → Hp w0.heap.size w0 w L → anyC P l.toArray (fun l w => l.getD T true = false → Hp w0.heap.size w0 w Lw) (liftN n w0 K) f (maskS N S) a w := h
theorem OKd_ent {L' : List Res} (e : Ent w0 L L') (h : OKd P n w0 T Lw K l N f S F L') : OKd P n w0 T Lw K l N f S F L := fun w a hf hp => h w a hf (e.use w hp)
theorem OKd_end (hr : (Region.ready .any l.toArray (maskS N S)).isEmpty = true) (e : (maskS N S).getD T true = true ∨ Ent w0 L Lw) (h : K F L) : OKd P n w0 T Lw K l N 0 S F L :=
  fun w a hf hp => ⟨fun h0 => e.elim (fun h1 => absurd (h0.symm.trans h1) (by simp)) (fun e => e.use w hp), List.isEmpty_iff.1 hr, rfl, F, L, hf, hp, h⟩
theorem OKd_stepG (kids : List (Nat × List Nat)) (hr : Region.ready .any l.toArray (maskS N S) = kids.map (·.1)) (hne : kids ≠ []) (e : (maskS N S).getD T true = true ∨ Ent w0 L Lw) (h : ∀ k ∈ kids, maskS N k.2 = (maskS N S).setIfInBounds k.1 true ∧ ∃ o, l[k.1]? = some o ∧ OKx P n w0 (.seq []) l.toArray (fun F L => OKd P n w0 T Lw K l N f k.2 F L) [o] F L) :
    OKd P n w0 T Lw K l N (f + 1) S F L := by
  intro w a hf hp
  refine ⟨fun h0 => e.elim (fun h1 => absurd (h0.symm.trans h1) (by simp)) (fun e => e.use w hp), fun h0 => ?_, fun i hi => ?_⟩
  · rw [hr] at h0
    exact absurd (List.map_eq_nil_iff.1 h0) hne
  · rw [hr] at hi
    obtain ⟨k, hk, rfl⟩ := List.mem_map.1 hi
    obtain ⟨hm, o, ho, hx⟩ := h k hk
    obtain ⟨_, h1⟩ := hx.use w a hf hp
    unfold wpOp
    have ho' : l.toArray[k.1]? = some o := by simpa using ho
    rw [ho']
    dsimp only
    rw [← hm]
    split
    · rename_i hw
      rw [if_pos hw] at h1
      refine .inl (Oper.wp_mono ?_ (wp_anyQ (fun c a w h => by cases h.1) (by rintro ⟨a, w, h, _⟩; cases h) h1))
      rintro a2 w2 ⟨_, _, F', L', h2, h3, h4⟩
      exact OKd.use h4 _ _ h2 h3
    · rename_i hw
      rw [if_neg hw] at h1
      obtain ⟨_, _, F', L', h2, h3, h4⟩ := h1
      exact OKd.use h4 _ _ h2 h3
theorem OKd_step1 {i1 : Nat} {S1 : List Nat} {o1 : Oper} (e : (maskS N S).getD T true = true ∨ Ent w0 L Lw) (hr : Region.ready .any l.toArray (maskS N S) = [i1]) (m1 : kidOk l N S i1 S1 = true) (g1 : l[i1]? = some o1)
    (k1 : OKx P n w0 (.seq []) l.toArray (fun F L => OKd P n w0 T Lw K l N f S1 F L) [o1] F L) : OKd P n w0 T Lw K l N (f + 1) S F L :=
  OKd_stepG [(i1, S1)] hr (by simp) e fun k hk => by
    obtain rfl := List.mem_singleton.1 hk
    exact ⟨kidOk_eq m1, o1, g1, k1⟩
theorem OKd_step2 {i1 i2 : Nat} {S1 S2 : List Nat} {o1 o2 : Oper} (e : (maskS N S).getD T true = true ∨ Ent w0 L Lw) (hr : Region.ready .any l.toArray (maskS N S) = [i1, i2]) (m1 : kidOk l N S i1 S1 = true) (m2 : kidOk l N S i2 S2 = true) (g1 : l[i1]? = some o1) (g2 : l[i2]? = some o2)
    (k1 : OKx P n w0 (.seq []) l.toArray (fun F L => OKd P n w0 T Lw K l N f S1 F L) [o1] F L) (k2 : OKx P n w0 (.seq []) l.toArray (fun F L => OKd P n w0 T Lw K l N f S2 F L) [o2] F L) : OKd P n w0 T Lw K l N (f + 1) S F L :=
  OKd_stepG [(i1, S1), (i2, S2)] hr (by simp) e fun k hk => by
    simp only [List.mem_cons, List.not_mem_nil, or_false] at hk
    rcases hk with rfl | rfl
    · exact ⟨kidOk_eq m1, o1, g1, k1⟩
    · exact ⟨kidOk_eq m2, o2, g2, k2⟩
theorem OKd_step3 {i1 i2 i3 : Nat} {S1 S2 S3 : List Nat} {o1 o2 o3 : Oper} (e : (maskS N S).getD T true = true ∨ Ent w0 L Lw) (hr : Region.ready .any l.toArray (maskS N S) = [i1, i2, i3]) (m1 : kidOk l N S i1 S1 = true) (m2 : kidOk l N S i2 S2 = true) (m3 : kidOk l N S i3 S3 = true) (g1 : l[i1]? = some o1) (g2 : l[i2]? = some o2) (g3 : l[i3]? = some o3)
    (k1 : OKx P n w0 (.seq []) l.toArray (fun F L => OKd P n w0 T Lw K l N f S1 F L) [o1] F L) (k2 : OKx P n w0 (.seq []) l.toArray (fun F L => OKd P n w0 T Lw K l N f S2 F L) [o2] F L) (k3 : OKx P n w0 (.seq []) l.toArray (fun F L => OKd P n w0 T Lw K l N f S3 F L) [o3] F L) : OKd P n w0 T Lw K l N (f + 1) S F L :=
  OKd_stepG [(i1, S1), (i2, S2), (i3, S3)] hr (by simp) e fun k hk => by
    simp only [List.mem_cons, List.not_mem_nil, or_false] at hk
    rcases hk with rfl | rfl | rfl
    · exact ⟨kidOk_eq m1, o1, g1, k1⟩
    · exact ⟨kidOk_eq m2, o2, g2, k2⟩
    · exact ⟨kidOk_eq m3, o3, g3, k3⟩
theorem OKd_pure {i : Nat} {S1 : List Nat} {o : Oper} (hB : (Region.noSelect l.toArray && stepB l.toArray [] (maskS N S) i) = true) (hT : waitsB l.toArray T i = true) (m1 : kidOk l N S i S1 = true) (g1 : l[i]? = some o)
    (k1 : OKx P n w0 .pure l.toArray (fun F1 _ => OKd P n w0 T Lw K l N f S1 F1 L) [o] F Lw) : OKd P n w0 T Lw K l N (f + 1) S F L := by
  intro w a hf hp
  simp only [stepB, Bool.and_eq_true, Bool.not_eq_true'] at hB
  obtain ⟨hTw, hTi⟩ := waitsB_at hT
  obtain ⟨hsel, ⟨⟨hr, hfr⟩, _⟩, hW⟩ := hB
  have hr' : i ∈ Region.ready .any l.toArray (maskS N S) := by simpa using hr
  have hW' : ∀ j ∈ waiters l.toArray i, (maskS N S).getD j true = false := fun j hj => by
    have := List.all_eq_true.1 hW j hj
    simpa using this
  have hi : l.toArray[i]? = some o := by simpa using g1
  have h1 := k1.useP a hf
  have hQ : ∀ c a w, ¬ liftN n w0 K (.panic c) a w := fun c a w h => by cases h.1
  unfold wpPure at h1
  by_cases hw : Region.wanted o (yielded l.toArray a.tmps) = true
  · rw [if_pos hw] at h1
    obtain ⟨v, hv, F', h2, h3⟩ := h1
    refine anyC_first hi (Region.noSelect_spec hsel) hQ (till_set hTi) _ _ a w (Region.free_spec hi hfr) hr' hW' (.inl ⟨hw, fun _ w' _ hl hc => hv w' (hc (hl _ hTw))⟩) ?_
    rw [← kidOk_eq m1]
    exact OKd.use h3 _ _ h2 hp
  · rw [if_neg hw] at h1
    obtain ⟨F', h2, h3⟩ := h1
    refine anyC_first hi (Region.noSelect_spec hsel) hQ (till_set hTi) _ _ a w (Region.free_spec hi hfr) hr' hW' (.inr ⟨by simpa using hw, rfl⟩) ?_
    rw [← kidOk_eq m1]
    exact OKd.use h3 _ _ h2 hp
theorem OK_pureAnzK (N f T : Nat) (E : List Nat) (Lw : List Res) {id : Nat} {le : List Oper} (hm : P.follows .mixedOrders = true) (hN : Nat.beq l.length N = true) (hB : (Region.noSelect l.toArray && pureLB l.toArray E (maskS N [])) = true) (hI : (E.all fun i => Nat.ble (i + 1) l.length) = true)
    (hS : ((listE E (maskS N [])).toList == (maskS N E).toList) = true) (hf : Nat.beq (f + E.length) N = true) (e : Ent w0 L Lw) (hE : pickO l E = le) (hT : (E.all (waitsB l.toArray T)) = true) (hK : ∀ F2 L2, K F2 L2 → Q .normal F2 L2)
    (h : OKx P n w0 .pure l.toArray (fun F1 _ => OKd P n w0 T Lw K l N f E F1 L) le F Lw) : OK P n w0 Q (.region id l.toArray true) F L := by
  obtain rfl : l.length = N := Nat.eq_of_beq_eq_true hN
  have hf' := Nat.eq_of_beq_eq_true hf
  subst hE
  simp only [Bool.and_eq_true] at hB
  have hS' : listE E (maskS l.length []) = maskS l.length E := Array.toList_inj.1 (beq_iff_eq.1 hS)
  refine OK.mk' fun w a hfr hp => wp_region_any hm ?_
  have e0 : maskS l.length [] = Array.replicate l.toArray.size false := by
    unfold maskS
    apply Array.ext
    · simp
    · intro i h1 h2; simp [memN]
  have key := anyD_pureE (P := P) (T := T) (ops := l.toArray) (Q := liftN n w0 K) (Cw := fun w => Hp w0.heap.size w0 w Lw) hB.1 (fun c a w h => by cases h.1) f E (pickO l E) (maskS l.length []) a w.drew (pickO_at l E hI) hB.2 hT (by
    have h1 := h.useP a hfr
    refine wpPure_mono ?_ _ _ h1
    rintro a' ⟨F', h2, h3⟩
    rw [hS']
    exact OKd.use h3 _ _ h2 hp.drew)
  rw [hf', e0] at key
  have key2 := anyC_any _ _ _ _ key
  have wm : ∀ (f : Nat) (ls : Array Bool) (a : Act) (w : World), wpAny P .any l.toArray (liftN n w0 K) f ls a w → wpAny P .any l.toArray (lift n w0 Q) f ls a w := by
    intro f
    induction f with
    | zero =>
      rintro ls a w ⟨h1, _, F', L', h2, h3, h4⟩
      exact ⟨h1, F', L', h2, h3, hK _ _ h4⟩
    | succ f ih =>
      rintro ls a w ⟨h1, h2⟩
      refine ⟨fun h0 => ?_, fun i hi => ?_⟩
      · obtain ⟨_, F', L', h2, h3, h4⟩ := h1 h0
        exact ⟨F', L', h2, h3, hK _ _ h4⟩
      · have h5 := h2 i hi
        unfold wpOp at h5 ⊢
        split
        · rename_i ho
          simp only [ho] at h5
          exact ih _ _ _ h5
        · rename_i o ho
          simp only [ho] at h5
          split
          · rename_i hw
            rw [if_pos hw] at h5
            rcases h5 with h5 | ⟨_, a9, w9, h9, _⟩
            · exact .inl (wp_anyQ (fun c a w h => by cases h.1) (by rintro ⟨a, w, h, _⟩; cases h) (Oper.wp_mono (fun a w h => ih _ _ _ h) h5))
            · cases h9
          · rename_i hw
            rw [if_neg hw] at h5
            exact ih _ _ _ h5
  have h2 := wm _ _ _ _ key2
  have e2 : l.toArray.size = l.length := by simp
  rw [e2]
  rw [e2] at h2
  exact h2
theorem OK_pureAnz (N f T : Nat) (E : List Nat) (Lw : List Res) {id : Nat} {le : List Oper} (hm : P.follows .mixedOrders = true) (hN : Nat.beq l.length N = true) (hB : (Region.noSelect l.toArray && pureLB l.toArray E (maskS N [])) = true) (hI : (E.all fun i => Nat.ble (i + 1) l.length) = true)
    (hS : ((listE E (maskS N [])).toList == (maskS N E).toList) = true) (hf : Nat.beq (f + E.length) N = true) (e : Ent w0 L Lw) (hE : pickO l E = le) (hT : (E.all (waitsB l.toArray T)) = true)
    (h : OKx P n w0 .pure l.toArray (fun F1 _ => OKd P n w0 T Lw (Q .normal) l N f E F1 L) le F Lw) : OK P n w0 Q (.region id l.toArray true) F L :=
  OK_pureAnzK N f T E Lw hm hN hB hI hS hf e hE hT (fun _ _ h => h) h
theorem OK_pureAnz2 (N f T : Nat) (E : List Nat) (Lw : List Res) (W : List Nat) (s1 s2 : Nat) (Mid : Value → Value → List Res → Prop) {id : Nat} {le : List Oper} (hm : P.follows .mixedOrders = true) (hN : Nat.beq l.length N = true) (hB : (Region.noSelect l.toArray && pureLB l.toArray E (maskS N [])) = true) (hI : (E.all fun i => Nat.ble (i + 1) l.length) = true)
    (hS : ((listE E (maskS N [])).toList == (maskS N E).toList) = true) (hf : Nat.beq (f + E.length) N = true) (e : Ent w0 L Lw) (hE : pickO l E = le) (hT : (E.all (waitsB l.toArray T)) = true)
    (h2 : ∀ v1 v2 L1 G, Mid v1 v2 L1 → Q .normal (upd (upd (over W G F) s1 v1) s2 v2) L1) (hQ : ∀ F2 L2 L3, Ent w0 L2 L3 → Q .normal F2 L3 → Q .normal F2 L2)
    (h : OKx P n w0 .pure l.toArray (fun F1 _ => OKd P n w0 T Lw (fun F2 L2 => agree W F2 F ∧ ∃ L1, Ent w0 L2 L1 ∧ Mid (F2 (some s1)) (F2 (some s2)) L1) l N f E F1 L) le F Lw) : OK P n w0 Q (.region id l.toArray true) F L := by
  refine OK_pureAnzK N f T E Lw hm hN hB hI hS hf e hE hT ?_ h
  rintro F2 L2 ⟨ha, L1, e1, hM⟩
  have hk := h2 _ _ L1 F2 hM
  rw [← over_upd ha, upd_self, upd_self] at hk
  exact hQ _ _ _ e1 hk
theorem OK_pureAnz4 (N f fS T : Nat) (E : List Nat) (Lw : List Res) (S W : List Nat) (s1 s2 s3 s4 : Nat) (Mid : Value → Value → Value → Value → List Res → Prop) {id : Nat} {le : List Oper} (hm : P.follows .mixedOrders = true) (hN : Nat.beq l.length N = true) (hB : (Region.noSelect l.toArray && pureLB l.toArray E (maskS N [])) = true) (hI : (E.all fun i => Nat.ble (i + 1) l.length) = true)
    (hS : ((listE E (maskS N [])).toList == (maskS N E).toList) = true) (hf : Nat.beq (f + E.length) N = true) (e : Ent w0 L Lw) (hE : pickO l E = le) (hT : (E.all (waitsB l.toArray T)) = true)
    (h2 : ∀ v1 v2 v3 v4 L1 G, Mid v1 v2 v3 v4 L1 → OKd P n w0 T Lw (Q .normal) l N fS S (upd (upd (upd (upd (over W G F) s1 v1) s2 v2) s3 v3) s4 v4) L1)
    (h1 : (∀ F2 L2, (agree W F2 F ∧ ∃ L1, Ent w0 L2 L1 ∧ Mid (F2 (some s1)) (F2 (some s2)) (F2 (some s3)) (F2 (some s4)) L1) → OKd P n w0 T Lw (Q .normal) l N fS S F2 L2) → OKx P n w0 .pure l.toArray (fun F1 _ => OKd P n w0 T Lw (Q .normal) l N f E F1 L) le F Lw) : OK P n w0 Q (.region id l.toArray true) F L := by
  refine OK_pureAnz N f T E Lw hm hN hB hI hS hf e hE hT (h1 ?_)
  rintro F2 L2 ⟨ha, L1, e1, hM⟩
  have hk := h2 _ _ _ _ L1 F2 hM
  rw [← over_upd ha, upd_self, upd_self, upd_self, upd_self] at hk
  exact OKd_ent e1 hk
end
section
variable {w0 : World}
theorem blockQ_entN {d : Nat} {Q : Exit → Fm → List Res → Prop} (h : ∀ F2 L2 L3, Ent w0 L2 L3 → Q .normal F2 L3 → Q .normal F2 L2) : ∀ F2 L2 L3, Ent w0 L2 L3 → blockQ d Q .normal F2 L3 → blockQ d Q .normal F2 L2 := fun F2 L2 L3 e hb => by
  unfold blockQ at *
  exact h F2 L2 L3 e hb
end
attribute [irreducible] OKd
end Go.Proofs.YtdigdmnnjbndlaaGreatDoor
