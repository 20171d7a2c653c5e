/-
  Part 17 of the proof: Anz, Tb33, Pt39. No statement of the seat is proved here.
-/
import Derived.Test.YtpknpbeiifjmgaaGreatMHPs3316
namespace Go.Proofs.YtpknpbeiifjmgaaGreat
open Go.RowKit
def waitsB (ops : Array Oper) (T i : Nat) : Bool := memN T (waiters ops i) && !Nat.beq i T
theorem waitsB_at {ops : Array Oper} {T i : Nat} (h : waitsB ops T i = true) : T ∈ waiters ops i ∧ i ≠ T := by
  simp only [waitsB, Bool.and_eq_true, Bool.not_eq_true'] at h
  exact ⟨(memN_iff _ _).1 h.1, fun e => by have h2 := h.2; rw [e, Nat.beq_refl] at h2; cases h2⟩
theorem till_set {Cw : World → Prop} {T i : Nat} (h : i ≠ T) : ∀ (listed : Array Bool) (w : World), listed.getD i true = false → ((listed.setIfInBounds i true).getD T true = false → Cw w) → (listed.getD T true = false → Cw w) := fun listed w _ hc h0 => hc (by
  rw [← h0]
  simp only [Array.getD_eq_getD_getElem?, Array.getElem?_setIfInBounds, if_neg h])
section
variable {P : Program} {ops : Array Oper} {Q : Exit → Act → World → Prop}
theorem anyD_pureE {Cw : World → Prop} {T : Nat} (hsel : Region.noSelect ops = true) (hQ : ∀ c a w, ¬ Q (.panic c) a w) (fuel : Nat) : ∀ (E : List Nat) (lo : List Oper) (listed : Array Bool) (a : Act) (w : World), E.map (fun t => ops[t]?) = lo.map some → pureLB ops E listed = true → (E.all (waitsB ops T)) = true →
    wpPure P ops Cw (fun a' => anyC P ops (fun l w => l.getD T true = false → Cw w) Q fuel (listE E listed) a' w) lo a → anyC P ops (fun l w => l.getD T true = false → Cw w) Q (fuel + E.length) listed a w
  | [], lo, listed, a, w, hm, _, _, h => by
    obtain rfl : lo = [] := by simpa using hm.symm
    exact h
  | i :: E, lo, listed, a, w, hm, hB, hT, h => by
    cases lo with
    | nil => simp at hm
    | cons o lo =>
      simp only [List.map_cons, List.cons.injEq] at hm
      obtain ⟨hi, hm⟩ := hm
      simp only [pureLB, stepB, Bool.and_eq_true, Bool.not_eq_true'] at hB
      obtain ⟨⟨⟨⟨hr, hf⟩, _⟩, hW⟩, hB'⟩ := hB
      rw [List.all_cons, Bool.and_eq_true] at hT
      obtain ⟨hT1, hT⟩ := hT
      obtain ⟨hTw, hTi⟩ := waitsB_at hT1
      have hr' : i ∈ Region.ready .any ops listed := by simpa using hr
      have hW' : ∀ j ∈ waiters ops i, listed.getD j true = false := fun j hj => by
        have := List.all_eq_true.1 hW j hj
        simpa using this
      rw [List.length_cons, ← Nat.add_assoc]
      unfold wpPure at h
      by_cases hw : Region.wanted o (yielded ops a.tmps) = true
      · rw [if_pos hw] at h
        obtain ⟨v, hv, hk⟩ := h
        exact anyC_first hi (Region.noSelect_spec hsel) hQ (till_set hTi) _ listed a w (Region.free_spec hi hf) hr' hW' (.inl ⟨hw, fun _ w' _ hl hc => hv w' (hc (hl _ hTw))⟩) (anyD_pureE hsel hQ fuel E lo _ _ w hm hB' hT hk)
      · rw [if_neg hw] at h
        exact anyC_first hi (Region.noSelect_spec hsel) hQ (till_set hTi) _ listed a w (Region.free_spec hi hf) hr' hW' (.inr ⟨by simpa using hw, rfl⟩) (anyD_pureE hsel hQ fuel E lo _ _ w hm hB' hT h)
end
section
variable {P : Program} {n : Nat} {w0 : World} {Q : Exit → Fm → List Res → Prop} {K : Fm → List Res → Prop} {F : Fm} {L Lw : List Res} {l : List Oper} {N f T : Nat} {S : List Nat}
def OKd (P : Program) (n : Nat) (w0 : World) (T : Nat) (Lw : List Res) (K : Fm → List Res → Prop) (l : List Oper) (N f : Nat) (S : List Nat) (F : Fm) (L : List Res) : Prop :=
  ∀ w a, Fr n a F → Hp w0.heap.size w0 w L → anyC P l.toArray (fun l w => l.getD T true = false → Hp w0.heap.size w0 w Lw) (liftN n w0 K) f (maskS N S) a w
theorem OKd.use (h : OKd P n w0 T Lw K l N f S F L) : ∀ w a, Fr n a F → Hp w0.heap.size w0 w L → anyC P l.toArray (fun l w => l.getD T true = false → Hp w0.heap.size w0 w Lw) (liftN n w0 K) f (maskS N S) a w := h
theorem OKd_end (hr : (Region.ready .any l.toArray (maskS N S)).isEmpty = true) (e : (maskS N S).getD T true = true ∨ Ent w0 L Lw) (h : K F L) : OKd P n w0 T Lw K l N 0 S F L :=
  fun w a hf hp => ⟨fun h0 => e.elim (fun h1 => absurd (h0.symm.trans h1) (by simp)) (fun e => e.use w hp), List.isEmpty_iff.1 hr, rfl, F, L, hf, hp, h⟩
theorem OKd_stepG (kids : List (Nat × List Nat)) (hr : Region.ready .any l.toArray (maskS N S) = kids.map (·.1)) (hne : kids ≠ []) (e : (maskS N S).getD T true = true ∨ Ent w0 L Lw) (h : ∀ k ∈ kids, maskS N k.2 = (maskS N S).setIfInBounds k.1 true ∧ ∃ o, l[k.1]? = some o ∧ OKx P n w0 (.seq []) l.toArray (fun F L => OKd P n w0 T Lw K l N f k.2 F L) [o] F L) :
    OKd P n w0 T Lw K l N (f + 1) S F L := by
  intro w a hf hp
  refine ⟨fun h0 => e.elim (fun h1 => absurd (h0.symm.trans h1) (by simp)) (fun e => e.use w hp), fun h0 => ?_, fun i hi => ?_⟩
  · rw [hr] at h0
    exact absurd (List.map_eq_nil_iff.1 h0) hne
  · rw [hr] at hi
    obtain ⟨k, hk, rfl⟩ := List.mem_map.1 hi
    obtain ⟨hm, o, ho, hx⟩ := h k hk
    obtain ⟨_, h1⟩ := hx.use w a hf hp
    unfold wpOp
    have ho' : l.toArray[k.1]? = some o := by simpa using ho
    rw [ho']
    dsimp only
    rw [← hm]
    split
    · rename_i hw
      rw [if_pos hw] at h1
      refine .inl (Oper.wp_mono ?_ (wp_anyQ (fun c a w h => by cases h.1) (by rintro ⟨a, w, h, _⟩; cases h) h1))
      rintro a2 w2 ⟨_, _, F', L', h2, h3, h4⟩
      exact OKd.use h4 _ _ h2 h3
    · rename_i hw
      rw [if_neg hw] at h1
      obtain ⟨_, _, F', L', h2, h3, h4⟩ := h1
      exact OKd.use h4 _ _ h2 h3
theorem OKd_step1 {i1 : Nat} {S1 : List Nat} {o1 : Oper} (e : (maskS N S).getD T true = true ∨ Ent w0 L Lw) (hr : Region.ready .any l.toArray (maskS N S) = [i1]) (m1 : kidOk l N S i1 S1 = true) (g1 : l[i1]? = some o1)
    (k1 : OKx P n w0 (.seq []) l.toArray (fun F L => OKd P n w0 T Lw K l N f S1 F L) [o1] F L) : OKd P n w0 T Lw K l N (f + 1) S F L :=
  OKd_stepG [(i1, S1)] hr (by simp) e fun k hk => by
    obtain rfl := List.mem_singleton.1 hk
    exact ⟨kidOk_eq m1, o1, g1, k1⟩
theorem OKd_step2 {i1 i2 : Nat} {S1 S2 : List Nat} {o1 o2 : Oper} (e : (maskS N S).getD T true = true ∨ Ent w0 L Lw) (hr : Region.ready .any l.toArray (maskS N S) = [i1, i2]) (m1 : kidOk l N S i1 S1 = true) (m2 : kidOk l N S i2 S2 = true) (g1 : l[i1]? = some o1) (g2 : l[i2]? = some o2)
    (k1 : OKx P n w0 (.seq []) l.toArray (fun F L => OKd P n w0 T Lw K l N f S1 F L) [o1] F L) (k2 : OKx P n w0 (.seq []) l.toArray (fun F L => OKd P n w0 T Lw K l N f S2 F L) [o2] F L) : OKd P n w0 T Lw K l N (f + 1) S F L :=
  OKd_stepG [(i1, S1), (i2, S2)] hr (by simp) e fun k hk => by
    simp only [List.mem_cons, List.not_mem_nil, or_false] at hk
    rcases hk with rfl | rfl
    · exact ⟨kidOk_eq m1, o1, g1, k1⟩
    · exact ⟨kidOk_eq m2, o2, g2, k2⟩
theorem OK_pureAnzK (N f T : Nat) (E : List Nat) (Lw : List Res) {id : Nat} {le : List Oper} (hm : P.follows .mixedOrders = true) (hN : Nat.beq l.length N = true) (hB : (Region.noSelect l.toArray && pureLB l.toArray E (maskS N [])) = true) (hI : (E.all fun i => Nat.ble (i + 1) l.length) = true)
    (hS : ((listE E (maskS N [])).toList == (maskS N E).toList) = true) (hf : Nat.beq (f + E.length) N = true) (e : Ent w0 L Lw) (hE : pickO l E = le) (hT : (E.all (waitsB l.toArray T)) = true) (hK : ∀ F2 L2, K F2 L2 → Q .normal F2 L2)
    (h : OKx P n w0 .pure l.toArray (fun F1 _ => OKd P n w0 T Lw K l N f E F1 L) le F Lw) : OK P n w0 Q (.region id l.toArray true) F L := by
  obtain rfl : l.length = N := Nat.eq_of_beq_eq_true hN
  have hf' := Nat.eq_of_beq_eq_true hf
  subst hE
  simp only [Bool.and_eq_true] at hB
  have hS' : listE E (maskS l.length []) = maskS l.length E := Array.toList_inj.1 (beq_iff_eq.1 hS)
  refine OK.mk' fun w a hfr hp => wp_region_any hm ?_
  have e0 : maskS l.length [] = Array.replicate l.toArray.size false := by
    unfold maskS
    apply Array.ext
    · simp
    · intro i h1 h2; simp [memN]
  have key := anyD_pureE (P := P) (T := T) (ops := l.toArray) (Q := liftN n w0 K) (Cw := fun w => Hp w0.heap.size w0 w Lw) hB.1 (fun c a w h => by cases h.1) f E (pickO l E) (maskS l.length []) a w.drew (pickO_at l E hI) hB.2 hT (by
    have h1 := h.useP a hfr
    refine wpPure_mono ?_ _ _ h1
    rintro a' ⟨F', h2, h3⟩
    rw [hS']
    exact OKd.use h3 _ _ h2 hp.drew)
  rw [hf', e0] at key
  have key2 := anyC_any _ _ _ _ key
  have wm : ∀ (f : Nat) (ls : Array Bool) (a : Act) (w : World), wpAny P .any l.toArray (liftN n w0 K) f ls a w → wpAny P .any l.toArray (lift n w0 Q) f ls a w := by
    intro f
    induction f with
    | zero =>
      rintro ls a w ⟨h1, _, F', L', h2, h3, h4⟩
      exact ⟨h1, F', L', h2, h3, hK _ _ h4⟩
    | succ f ih =>
      rintro ls a w ⟨h1, h2⟩
      refine ⟨fun h0 => ?_, fun i hi => ?_⟩
      · obtain ⟨_, F', L', h2, h3, h4⟩ := h1 h0
        exact ⟨F', L', h2, h3, hK _ _ h4⟩
      · have h5 := h2 i hi
        unfold wpOp at h5 ⊢
        split
        · rename_i ho
          simp only [ho] at h5
          exact ih _ _ _ h5
        · rename_i o ho
          simp only [ho] at h5
          split
          · rename_i hw
            rw [if_pos hw] at h5
            rcases h5 with h5 | ⟨_, a9, w9, h9, _⟩
            · exact .inl (wp_anyQ (fun c a w h => by cases h.1) (by rintro ⟨a, w, h, _⟩; cases h) (Oper.wp_mono (fun a w h => ih _ _ _ h) h5))
            · cases h9
          · rename_i hw
            rw [if_neg hw] at h5
            exact ih _ _ _ h5
  have h2 := wm _ _ _ _ key2
  have e2 : l.toArray.size = l.length := by simp
  rw [e2]
  rw [e2] at h2
  exact h2
theorem OK_pureAnz2 (N f T : Nat) (E : List Nat) (Lw : List Res) (W : List Nat) (s1 s2 : Nat) (Mid : Value → Value → List Res → Prop) {id : Nat} {le : List Oper} (hm : P.follows .mixedOrders = true) (hN : Nat.beq l.length N = true) (hB : (Region.noSelect l.toArray && pureLB l.toArray E (maskS N [])) = true) (hI : (E.all fun i => Nat.ble (i + 1) l.length) = true)
    (hS : ((listE E (maskS N [])).toList == (maskS N E).toList) = true) (hf : Nat.beq (f + E.length) N = true) (e : Ent w0 L Lw) (hE : pickO l E = le) (hT : (E.all (waitsB l.toArray T)) = true)
    (h2 : ∀ v1 v2 L1 G, Mid v1 v2 L1 → Q .normal (upd (upd (over W G F) s1 v1) s2 v2) L1) (hQ : ∀ F2 L2 L3, Ent w0 L2 L3 → Q .normal F2 L3 → Q .normal F2 L2)
    (h : OKx P n w0 .pure l.toArray (fun F1 _ => OKd P n w0 T Lw (fun F2 L2 => agree W F2 F ∧ ∃ L1, Ent w0 L2 L1 ∧ Mid (F2 (some s1)) (F2 (some s2)) L1) l N f E F1 L) le F Lw) : OK P n w0 Q (.region id l.toArray true) F L := by
  refine OK_pureAnzK N f T E Lw hm hN hB hI hS hf e hE hT ?_ h
  rintro F2 L2 ⟨ha, L1, e1, hM⟩
  have hk := h2 _ _ L1 F2 hM
  rw [← over_upd ha, upd_self, upd_self] at hk
  exact hQ _ _ _ e1 hk
end
section
variable {w0 : World}
theorem blockQ_entN {d : Nat} {Q : Exit → Fm → List Res → Prop} (h : ∀ F2 L2 L3, Ent w0 L2 L3 → Q .normal F2 L3 → Q .normal F2 L2) : ∀ F2 L2 L3, Ent w0 L2 L3 → blockQ d Q .normal F2 L3 → blockQ d Q .normal F2 L2 := fun F2 L2 L3 e hb => by
  unfold blockQ at *
  exact h F2 L2 L3 e hb
end
attribute [irreducible] OKd
end Go.Proofs.YtpknpbeiifjmgaaGreat
namespace Go.Proofs.YtpknpbeiifjmgaaGreat
open Go.RowKit
def TabR (c : Nat → Nat → Int) (par : List Int) (kn : Nat → Int) (S : Nat) (u : Value) (L : List Res) : Prop :=
  ∃ g vs Z, u = .slice (some ⟨g, 0, none⟩) par.length par.length ∧ L = .row 22 1 (.slice (some ⟨g, 0, none⟩) par.length par.length) par.length vs :: Z ∧ vs.length = par.length ∧ ∀ w1 w, Hp w1.heap.size w1 w Z → ∀ j, j < par.length → Ints w (vs.getD j undef) (tabV c par kn S j)
set_option maxRecDepth 100000 in
set_option maxHeartbeats 4000000 in
theorem table_sat (v sv cv : Value) (t : Tre) (st : List Int) (cs : List (List Int)) (S : Nat) (w : World) (h : Tri w v t) (hS : Ints w sv st) (hC : Tabs w cv cs) (hc : treC t = 0) (hSl : cs.length = S) (hS16 : S ≤ 1000)
    (hrow : ∀ a, a < S → (cs.getD a []).length = S) (hcb : ∀ a b, 0 ≤ cosT cs a b ∧ cosT cs a b ≤ 1000) (hlv : (lvs t).length = st.length) (ok : TrOk (cosT cs) t.par (knT (lvs t) st) S) :
    Sat Tryz.prog 26 [v, sv, cv] w (TabR (cosT cs) t.par (knT (lvs t) st) S) := by
  have ht := h
  obtain ⟨pv, nv, rfl, hP, hN⟩ := h
  have hpv := hP.sl
  obtain ⟨sa, sc, rfl, _⟩ := (show Ints w sv st from hS).at
  obtain ⟨fv, hcv, _⟩ := hC.rows
  obtain ⟨ca, cc, rfl, _⟩ := hcv.out
  have hl := treC_len hc
  have hlk := lvL_len t t.names.length
  have hL : ∀ w1, Below w.heap.size w w1 → Sat Tryz.prog 19 [.agg #[pv, nv]] w1 (fun u L => ∃ a n c, n = (lvs t).length ∧ u = .tuple #[.slice a n c, .int .i64 0] ∧ L = [.row 3 1 (.slice a n c) n (ints (lvs t))]) := fun w1 hb =>
    (Leaves_sat _ t w1 (ht.below hb)).mono (by
      rintro u L (⟨h1, _⟩ | ⟨_, a, n, c, h2, h3, _, h4⟩)
      · exact absurd hc h1
      · exact ⟨a, n, c, h2, h3, h4⟩)
  refine SatL.of 33 [6] Tryz.func26 (by kernel_rfl) (by kernel_rfl) rfl rfl rfl rfl ?_
  repeat' (first|(apply OK_seq)|(apply thenQ_n)|(apply OK_region)|(refine OKx_make (N := t.par.length) rfl rfl rfl (by omega) (by omega) ?_; intro go)|(apply OKx_gc 19;exact rfl; refine OKx_call (f := 19) rfl rfl (fun w1 hp => hL w1 hp.below) ?_; rintro _ _ ⟨la, nl, lc, hnl, rfl, rfl⟩; simp only [List.cons_append, List.nil_append])|(apply OKx_nilK)|(apply OK_block)|(apply blockQ_n)|(apply blockQ_s)|(apply thenQ_e)|(apply blockQ_e;exact rfl)|(apply thenQ_r)|(apply blockQ_r)|(apply OK_condT;exact rfl)|(apply OK_condF;exact rfl)|(apply OK_skip)|(apply OK_exit)|(apply OK_ret)|(apply OKx_move;(conv=>lhs;whnf)<;>exact rfl)|(apply OKx_assign;(conv=>lhs;whnf)<;>exact rfl)|(apply OKx_ldB;exact rfl;(first | exact at0|exact at1|exact at2|exact at3|exact at4|exact at5|exact at6|exact at7);exact rfl)|(apply OKx_ldR;(conv=>lhs;whnf)<;>exact rfl;(with_reducible assumption))|(apply OKx_len;exact rfl)|(apply OKx_lenR;(conv=>lhs;whnf)<;>exact rfl;(with_reducible assumption))|(apply OKx_lenR2;(conv=>lhs;whnf)<;>exact rfl;(with_reducible assumption))|(apply OKx_lenO;(conv=>lhs;whnf)<;>exact rfl;(first | exact at0|exact at1|exact at2|exact at3|exact at4|exact at5|exact at6|exact at7))|(apply OKx_geq;exact rfl;exact rfl;all_goals (intro _; try (exfalso;omega)))|(apply OKx_fldO;exact rfl;exact rfl)|(apply OKx_fldR;(conv=>lhs;whnf)<;>exact rfl;(with_reducible assumption); decide;intro _ _)|(apply OKx_dec;exact rfl;exact rfl;omega;omega)|(apply OKx_subN;exact rfl;exact rfl;omega;omega)|(apply OKx_sub;exact rfl;exact rfl;omega;omega)|(apply OKx_extract;exact rfl;(conv=>lhs;whnf)<;>exact rfl)|(apply OKx_boxA;exact rfl;intro _)|(apply OKx_alloc1;intro _)|(apply OKx_ldBA;exact rfl;(first | exact at0|exact at1|exact at2|exact at3|exact at4|exact at5|exact at6|exact at7);exact rfl)|(apply OKx_ldRA;(conv=>lhs;whnf)<;>exact rfl;(with_reducible assumption))|(apply OKx_stB;exact rfl;(conv=>lhs;whnf)<;>exact rfl;exact rfl;exact rfl;(first | exact at0|exact at1|exact at2|exact at3|exact at4|exact at5|exact at6|exact at7);exact rfl;exact rfl;exact rfl)|(apply OKx_box1;(conv=>lhs;whnf)<;>exact rfl;exact rfl;intro _)|(apply OKx_func;exact rfl;exact rfl))
  rename_i gT gS gC gO gL
  refine OK_loop1 11 [11, 25, 26, 27, 28, 29, 30, 31] (fun m x L => ∃ (vs : List Value) (Z : List Res), m ≤ t.par.length ∧ x = .int .i64 ((m : Int) - 1) ∧ vs.length = t.par.length ∧ (∀ w1 w, Hp w1.heap.size w1 w Z → ∀ j, m ≤ j → j < t.par.length → Ints w (vs.getD j undef) (tabV (cosT cs) t.par (knT (lvs t) st) S j)) ∧
    L = tbL go gO gT gS gL gC t.par.length nl pv nv (.slice sa st.length sc) (.slice la nl lc) (.slice ca cs.length cc) (lvs t) vs ++ Z) t.par.length (tbL go gO gT gS gL gC t.par.length nl pv nv (.slice sa st.length sc) (.slice la nl lc) (.slice ca cs.length cc) (lvs t) (List.replicate t.par.length (.slice none 0 0))) (Ent.pick [3, 2, 6, 5, 0, 4, 1] rfl) ⟨List.replicate t.par.length (.slice none 0 0), [], Nat.le_refl _, by show Value.int .i64 ((t.par.length - 1 : Nat) : Int) = _; congr 1;omega, by simp, fun _ _ _ j h1 h2 => absurd h2 (by omega), rfl⟩ ?_
  rintro m x L G ⟨vs, Z, hm, rfl, hvl, hZ, rfl⟩
  by_cases hk : 0 < m
  · obtain ⟨k, rfl⟩ : ∃ k, m = k + 1 := ⟨m - 1, by omega⟩
    have e1 : (((k + 1 : Nat) : Int) - 1) = (k : Int) := by omega
    rw [e1]
    repeat' (first|(apply OK_seq)|(apply thenQ_n)|(apply OK_region)|(apply OKx_gc 45;exact rfl; refine OKx_callL (f := 45) rfl rfl (fil_sat go gO gT gS gL gC t.par.length nl S k pv nv (.slice sa st.length sc) (.slice la nl lc) (.slice ca cs.length cc) t.par st (lvs t) cs vs Z w hP hS hC rfl (by omega) (by omega) hSl hS16 hrow hcb hlv hnl (by rw [hnl]; exact Nat.le_trans hlk (by omega)) ok hvl (fun w1 w2 hp j h1 h2 => hZ w1 w2 hp j (by omega) h2)) ?_; rintro _ _ ⟨rfl, gr, rfl⟩)|(apply OKx_nilK)|(apply OK_block)|(apply blockQ_n)|(apply blockQ_s)|(apply thenQ_e)|(apply blockQ_e;exact rfl)|(apply thenQ_r)|(apply blockQ_r)|(apply OK_condT;exact rfl)|(apply OK_condF;exact rfl)|(apply OK_skip)|(apply OK_exit)|(apply OK_ret)|(apply OKx_move;(conv=>lhs;whnf)<;>exact rfl)|(apply OKx_assign;(conv=>lhs;whnf)<;>exact rfl)|(apply OKx_ldB;exact rfl;(first | exact at0|exact at1|exact at2|exact at3|exact at4|exact at5|exact at6|exact at7);exact rfl)|(apply OKx_ldR;(conv=>lhs;whnf)<;>exact rfl;(with_reducible assumption))|(apply OKx_len;exact rfl)|(apply OKx_lenR;(conv=>lhs;whnf)<;>exact rfl;(with_reducible assumption))|(apply OKx_lenR2;(conv=>lhs;whnf)<;>exact rfl;(with_reducible assumption))|(apply OKx_lenO;(conv=>lhs;whnf)<;>exact rfl;(first | exact at0|exact at1|exact at2|exact at3|exact at4|exact at5|exact at6|exact at7))|(apply OKx_geq;exact rfl;exact rfl;all_goals (intro _; try (exfalso;omega)))|(apply OKx_fldO;exact rfl;exact rfl)|(apply OKx_fldR;(conv=>lhs;whnf)<;>exact rfl;(with_reducible assumption); decide;intro _ _)|(apply OKx_dec;exact rfl;exact rfl;omega;omega)|(apply OKx_subN;exact rfl;exact rfl;omega;omega)|(apply OKx_sub;exact rfl;exact rfl;omega;omega)|(apply OKx_extract;exact rfl;(conv=>lhs;whnf)<;>exact rfl)|(apply OKx_boxA;exact rfl;intro _)|(apply OKx_alloc1;intro _)|(apply OKx_ldBA;exact rfl;(first | exact at0|exact at1|exact at2|exact at3|exact at4|exact at5|exact at6|exact at7);exact rfl)|(apply OKx_ldRA;(conv=>lhs;whnf)<;>exact rfl;(with_reducible assumption))|(apply OKx_stB;exact rfl;(conv=>lhs;whnf)<;>exact rfl;exact rfl;exact rfl;(first | exact at0|exact at1|exact at2|exact at3|exact at4|exact at5|exact at6|exact at7);exact rfl;exact rfl;exact rfl)|(apply OKx_box1;(conv=>lhs;whnf)<;>exact rfl;exact rfl;intro _)|(apply OKx_func;exact rfl;exact rfl))
    refine ⟨by (repeat' (first | refine agree_upd rfl ?_ | exact agree_over | exact agree_refl _ _ | refine agree_over2 rfl ?_)), k, _, by omega, Ent.refl _ _, ?_⟩
    refine ⟨vs.set k (.slice (some ⟨gr, 0, none⟩) S S), .row 3 1 (.slice (some ⟨gr, 0, none⟩) S S) S (ints (tabV (cosT cs) t.par (knT (lvs t) st) S k)) :: Z, by omega, rfl, by simp [hvl], fun w1 w2 hp j h1 h2 => ?_, rfl⟩
    by_cases e : j = k
    · subst e
      rw [List.getD_eq_getElem?_getD, List.getElem?_set_self (by omega)]
      have hlt := tabV_len (cosT cs) t.par (knT (lvs t) st) S j h2
      exact hp.ints (xs := tabV (cosT cs) t.par (knT (lvs t) st) S j) (n := S) 0 rfl (by omega)
    · rw [List.getD_eq_getElem?_getD, List.getElem?_set_ne (by omega), ← List.getD_eq_getElem?_getD]
      exact hZ w1 w2 hp.drop1 j (by omega) h2
  · obtain rfl : m = 0 := by omega
    repeat' (first|(apply OK_seq)|(apply thenQ_n)|(apply OK_region)|(apply OKx_nilK)|(apply OK_block)|(apply blockQ_n)|(apply blockQ_s)|(apply thenQ_e)|(apply blockQ_e;exact rfl)|(apply thenQ_r)|(apply blockQ_r)|(apply OK_condT;exact rfl)|(apply OK_condF;exact rfl)|(apply OK_skip)|(apply OK_exit)|(apply OK_ret)|(apply OKx_move;(conv=>lhs;whnf)<;>exact rfl)|(apply OKx_assign;(conv=>lhs;whnf)<;>exact rfl)|(apply OKx_ldB;exact rfl;(first | exact at0|exact at1|exact at2|exact at3|exact at4|exact at5|exact at6|exact at7);exact rfl)|(apply OKx_ldR;(conv=>lhs;whnf)<;>exact rfl;(with_reducible assumption))|(apply OKx_len;exact rfl)|(apply OKx_lenR;(conv=>lhs;whnf)<;>exact rfl;(with_reducible assumption))|(apply OKx_lenR2;(conv=>lhs;whnf)<;>exact rfl;(with_reducible assumption))|(apply OKx_lenO;(conv=>lhs;whnf)<;>exact rfl;(first | exact at0|exact at1|exact at2|exact at3|exact at4|exact at5|exact at6|exact at7))|(apply OKx_geq;exact rfl;exact rfl;all_goals (intro _; try (exfalso;omega)))|(apply OKx_fldO;exact rfl;exact rfl)|(apply OKx_fldR;(conv=>lhs;whnf)<;>exact rfl;(with_reducible assumption); decide;intro _ _)|(apply OKx_dec;exact rfl;exact rfl;omega;omega)|(apply OKx_subN;exact rfl;exact rfl;omega;omega)|(apply OKx_sub;exact rfl;exact rfl;omega;omega)|(apply OKx_extract;exact rfl;(conv=>lhs;whnf)<;>exact rfl)|(apply OKx_boxA;exact rfl;intro _)|(apply OKx_alloc1;intro _)|(apply OKx_ldBA;exact rfl;(first | exact at0|exact at1|exact at2|exact at3|exact at4|exact at5|exact at6|exact at7);exact rfl)|(apply OKx_ldRA;(conv=>lhs;whnf)<;>exact rfl;(with_reducible assumption))|(apply OKx_stB;exact rfl;(conv=>lhs;whnf)<;>exact rfl;exact rfl;exact rfl;(first | exact at0|exact at1|exact at2|exact at3|exact at4|exact at5|exact at6|exact at7);exact rfl;exact rfl;exact rfl)|(apply OKx_box1;(conv=>lhs;whnf)<;>exact rfl;exact rfl;intro _)|(apply OKx_func;exact rfl;exact rfl))
    refine bodyQ_r1 (by ((conv=>lhs;whnf)<;>exact rfl)) ?_
    exact ⟨_, Ent.pickT [_, _, _, _, _, _, _] Z [0] rfl, go, vs, Z, rfl, rfl, hvl, fun w1 w2 hp j hj => hZ w1 w2 hp j (by omega) hj⟩
theorem idxFrom_mem (x : Int) : ∀ (zs : List Int) (i : Nat), 0 ≤ Lib.idxFrom zs x i → x ∈ zs
  | [], i, h => by simp [Lib.idxFrom] at h
  | z :: zs, i, h => by
    simp only [Lib.idxFrom] at h
    split at h
    · rename_i e; rw [e]; exact List.mem_cons_self
    · exact List.mem_cons_of_mem _ (idxFrom_mem x zs (i + 1) h)
theorem lvs_mem {t : Tre} {i : Nat} (h : (i : Int) ∈ lvs t) : i < t.names.length ∧ t.names.getD i ByteArray.empty ≠ ByteArray.empty := by
  unfold lvs lvL at h
  rw [List.mem_map] at h
  obtain ⟨k, hk, e⟩ := h
  rw [List.mem_filter, List.mem_range, decide_eq_true_eq] at hk
  obtain rfl : k = i := by omega
  exact hk
theorem badK_no {lo hi : Int} {st : List Int} (h : ¬ st.any (badK lo hi) = true) : ∀ x ∈ st, lo ≤ x ∧ x < hi := fun x hx => by
  have hb : ¬ badK lo hi x = true := fun e => h (List.any_eq_true.2 ⟨x, hx, e⟩)
  unfold badK at hb
  rw [Bool.or_eq_true, decide_eq_true_eq, decide_eq_true_eq] at hb
  omega
theorem trOk_of {t : Tre} {st : List Int} {c : Nat → Nat → Int} {S : Nat} (hc : treC t = 0) (hS : 0 < S) (h0 : ∀ a b, 0 ≤ c a b) (hk : knwE st (lvs t).length (-1) (S : Int) = 0) : TrOk c t.par (knT (lvs t) st) S := by
  have hl := treC_len hc
  have hp := treC_par hc
  unfold knwE at hk
  by_cases h1 : st.length = (lvs t).length
  rotate_left
  · rw [if_pos h1] at hk;omega
  rw [if_neg (fun h => h h1)] at hk
  by_cases h2 : st.any (badK (-1) (S : Int)) = true
  · rw [if_pos h2] at hk;omega
  have hb := badK_no h2
  refine ⟨h0, fun i h3 h4 => hp.2 i h3 h4, fun i hi => ?_, fun i k hi hk hn => ?_, hS⟩
  · unfold knT
    split
    · have hr := idxOf_rng (lvs t) (i : Int)
      have hm : st.getD (Lib.idxOf (lvs t) (i : Int)).toNat 0 ∈ st := by
        rw [getD_lt st _ _ (by omega)]; exact List.getElem_mem _
      exact hb _ hm
    · omega
  · unfold knT at hn
    split at hn
    · rename_i hx
      have hm := lvs_mem (idxFrom_mem _ _ _ hx)
      intro e
      refine hm.2 ((treC_leaf hc i hi).2 ?_)
      exact anyN_hit hk (decide_eq_true e)
    · omega
theorem uniL_row (n a : Nat) (h : a < n) : ((uniL n).getD a []).length = n := by rw [uniL_at n a h]; simp
theorem uniL_len (n : Nat) : (uniL n).length = n := by simp [uniL]
theorem uniL_rng (n a b : Nat) : 0 ≤ cosT (uniL n) a b ∧ cosT (uniL n) a b ≤ 1000 := by
  by_cases ha : a < n
  · by_cases hb : b < n
    · rw [uniL_cos n a b ha hb]; split <;> omega
    · unfold cosT; rw [getD_ge _ _ _ (by rw [uniL_row n a ha];omega)];omega
  · unfold cosT; rw [getD_ge (uniL n) _ _ (by rw [uniL_len];omega)]; simp
def fitE (t : Tre) (st : List Int) : Int := if treC t ≠ 0 then 1 else knwE st (lvs t).length (-1) 16
def fitX (t : Tre) (st : List Int) : Int := (minC (fun _ => 0) (tabV (cosT (uniL 16)) t.par (knT (lvs t) st) 16 0) 16).1
set_option maxRecDepth 100000 in
set_option maxHeartbeats 4000000 in
theorem Fitch_sat (v sv : Value) (t : Tre) (st : List Int) (w : World) (h : Tri w v t) (hS : Ints w sv st) :
    SatV Tryz.prog 10 [v, sv] w (.tuple #[.int .i64 (if fitE t st = 0 then fitX t st else 0), .int .i64 (fitE t st)]) := by
  have ht := h
  obtain ⟨pv, nv, rfl, hP, hN⟩ := h
  have hsv := hS.sl
  obtain ⟨sa, sc, rfl, _⟩ := hS.at
  have hL : ∀ w1, Below w.heap.size w w1 → Sat Tryz.prog 19 [.agg #[pv, nv]] w1 (LvR t) := fun w1 hb => Leaves_sat _ t w1 (ht.below hb)
  generalize hE : fitE t st = e
  unfold fitE at hE
  by_cases hc : treC t = 0
  rotate_left
  · rw [if_pos hc] at hE
    subst hE
    rw [if_neg (by omega)]
    have hL2 : ∀ w1, Below w.heap.size w w1 → Sat Tryz.prog 19 [.agg #[pv, nv]] w1 (fun u L => u = .tuple #[.slice none 0 0, .int .i64 1] ∧ L = []) := fun w1 hb =>
      (hL w1 hb).mono (by
        rintro u L (⟨_, h1, h2⟩ | ⟨h1, _⟩)
        · exact ⟨h1, h2⟩
        · exact absurd h1 hc)
    refine SatL.of 36 [4, 5] Tryz.func10 (by kernel_rfl) (by kernel_rfl) rfl rfl rfl rfl ?_
    repeat' (first|(apply OK_seq)|(apply thenQ_n)|(apply OK_region)|(apply OKx_gc 19;exact rfl; refine OKx_call (f := 19) rfl rfl (fun w1 hp => hL2 w1 hp.below) ?_; rintro _ _ ⟨rfl, rfl⟩; simp only [List.cons_append, List.nil_append])|(refine OK_rid 7 ?_; refine OK_quiet (id := 7) (by kernel_rfl) (by kernel_rfl) ?_)|(apply OKx_nilK)|(apply OK_block)|(apply blockQ_n)|(apply blockQ_s)|(apply thenQ_e)|(apply blockQ_e;exact rfl)|(apply thenQ_r)|(apply blockQ_r)|(apply OK_condT;exact rfl)|(apply OK_condF;exact rfl)|(apply OK_skip)|(apply OK_exit)|(apply OK_ret)|(apply OKx_move;(conv=>lhs;whnf)<;>exact rfl)|(apply OKx_assign;(conv=>lhs;whnf)<;>exact rfl)|(apply OKx_ldB;exact rfl;(first | exact at0|exact at1|exact at2|exact at3|exact at4|exact at5|exact at6|exact at7);exact rfl)|(apply OKx_ldR;(conv=>lhs;whnf)<;>exact rfl;(with_reducible assumption))|(apply OKx_len;exact rfl)|(apply OKx_lenR;(conv=>lhs;whnf)<;>exact rfl;(with_reducible assumption))|(apply OKx_lenR2;(conv=>lhs;whnf)<;>exact rfl;(with_reducible assumption))|(apply OKx_lenO;(conv=>lhs;whnf)<;>exact rfl;(first | exact at0|exact at1|exact at2|exact at3|exact at4|exact at5|exact at6|exact at7))|(apply OKx_neq;exact rfl;exact rfl;all_goals (intro _; try (exfalso;omega)))|(apply OKx_idxO;exact rfl;exact rfl;omega)|(apply OKx_idxR;(conv=>lhs;whnf)<;>exact rfl;(with_reducible assumption);exact rfl;omega;intro _ _)|(apply OKx_idxOz;exact rfl;exact rfl;omega;omega)|(apply OKx_idxRz;(conv=>lhs;whnf)<;>exact rfl;(with_reducible assumption);exact rfl;omega;omega;intro _ _)|(apply OKx_extract;exact rfl;(conv=>lhs;whnf)<;>exact rfl)|(apply OKx_boxA;exact rfl;intro _)|(apply OKx_ldBA;exact rfl;(first | exact at0|exact at1|exact at2|exact at3|exact at4|exact at5|exact at6|exact at7);exact rfl)|(apply OKx_ldRA;(conv=>lhs;whnf)<;>exact rfl;(with_reducible assumption)))
    refine bodyQ_r2 (by ((conv=>lhs;whnf)<;>exact rfl)) (by ((conv=>lhs;whnf)<;>exact rfl)) ?_
    exact ⟨_, Ent.nil, rfl, rfl⟩
  rw [if_neg (fun h => h hc)] at hE
  subst hE
  have hl := treC_len hc
  have hlk := lvL_len t t.names.length
  have hlv64 : (lvs t).length ≤ 64 := Nat.le_trans hlk (by omega)
  have hL3 : ∀ w1, Below w.heap.size w w1 → Sat Tryz.prog 19 [.agg #[pv, nv]] w1 (fun u L => ∃ a n c, n = (lvs t).length ∧ u = .tuple #[.slice a n c, .int .i64 0] ∧ L = [.row 3 1 (.slice a n c) n (ints (lvs t))]) := fun w1 hb =>
    (hL w1 hb).mono (by
      rintro u L (⟨h1, _⟩ | ⟨_, a, n, c, h2, h3, _, h4⟩)
      · exact absurd hc h1
      · exact ⟨a, n, c, h2, h3, h4⟩)
  have hkn : ∀ w1, Below w.heap.size w w1 → SatV Tryz.prog 24 [.slice sa st.length sc, .int .i64 ((lvs t).length : Int), .int .i64 (-1), .int .i64 16] w1 (.int .i64 (knwE st (lvs t).length (-1) 16)) := fun w1 hb => knw_sat _ st _ _ _ w1 (hS.below hb) (by omega)
  by_cases hk : knwE st (lvs t).length (-1) 16 = 0
  rotate_left
  · rw [if_neg hk]
    refine SatL.of 36 [4, 5] Tryz.func10 (by kernel_rfl) (by kernel_rfl) rfl rfl rfl rfl ?_
    repeat' (first|(apply OK_seq)|(apply thenQ_n)|(apply OK_region)|(apply OKx_gc 19;exact rfl; refine OKx_call (f := 19) rfl rfl (fun w1 hp => hL3 w1 hp.below) ?_; rintro _ _ ⟨la, nl, lc, rfl, rfl, rfl⟩; simp only [List.cons_append, List.nil_append])|(apply OKx_gc 24;exact rfl; refine OKx_callV (f := 24) rfl rfl rfl (fun w1 hp => hkn w1 hp.below) ?_)|(refine OK_rid 7 ?_; refine OK_quiet (id := 7) (by kernel_rfl) (by kernel_rfl) ?_)|(apply OKx_nilK)|(apply OK_block)|(apply blockQ_n)|(apply blockQ_s)|(apply thenQ_e)|(apply blockQ_e;exact rfl)|(apply thenQ_r)|(apply blockQ_r)|(apply OK_condT;exact rfl)|(apply OK_condF;exact rfl)|(apply OK_skip)|(apply OK_exit)|(apply OK_ret)|(apply OKx_move;(conv=>lhs;whnf)<;>exact rfl)|(apply OKx_assign;(conv=>lhs;whnf)<;>exact rfl)|(apply OKx_ldB;exact rfl;(first | exact at0|exact at1|exact at2|exact at3|exact at4|exact at5|exact at6|exact at7);exact rfl)|(apply OKx_ldR;(conv=>lhs;whnf)<;>exact rfl;(with_reducible assumption))|(apply OKx_len;exact rfl)|(apply OKx_lenR;(conv=>lhs;whnf)<;>exact rfl;(with_reducible assumption))|(apply OKx_lenR2;(conv=>lhs;whnf)<;>exact rfl;(with_reducible assumption))|(apply OKx_lenO;(conv=>lhs;whnf)<;>exact rfl;(first | exact at0|exact at1|exact at2|exact at3|exact at4|exact at5|exact at6|exact at7))|(apply OKx_neq;exact rfl;exact rfl;all_goals (intro _; try (exfalso;omega)))|(apply OKx_idxO;exact rfl;exact rfl;omega)|(apply OKx_idxR;(conv=>lhs;whnf)<;>exact rfl;(with_reducible assumption);exact rfl;omega;intro _ _)|(apply OKx_idxOz;exact rfl;exact rfl;omega;omega)|(apply OKx_idxRz;(conv=>lhs;whnf)<;>exact rfl;(with_reducible assumption);exact rfl;omega;omega;intro _ _)|(apply OKx_extract;exact rfl;(conv=>lhs;whnf)<;>exact rfl)|(apply OKx_boxA;exact rfl;intro _)|(apply OKx_ldBA;exact rfl;(first | exact at0|exact at1|exact at2|exact at3|exact at4|exact at5|exact at6|exact at7);exact rfl)|(apply OKx_ldRA;(conv=>lhs;whnf)<;>exact rfl;(with_reducible assumption)))
    refine bodyQ_r2 (by ((conv=>lhs;whnf)<;>exact rfl)) (by ((conv=>lhs;whnf)<;>exact rfl)) ?_
    exact ⟨_, Ent.nil, rfl, rfl⟩
  rw [if_pos hk]
  rw [hk]
  rw [hk] at hkn
  have ok : TrOk (cosT (uniL 16)) t.par (knT (lvs t) st) 16 := trOk_of hc (by omega) (fun a b => (uniL_rng 16 a b).1) hk
  have hls : (lvs t).length = st.length := by
    unfold knwE at hk
    by_cases h1 : st.length = (lvs t).length
    · exact h1.symm
    · rw [if_pos h1] at hk;omega
  have hT : ∀ w1 cv, Below w.heap.size w w1 → Tabs w1 cv (uniL 16) → Sat Tryz.prog 26 [.agg #[pv, nv], .slice sa st.length sc, cv] w1 (TabR (cosT (uniL 16)) t.par (knT (lvs t) st) 16) := fun w1 cv hb hC =>
    table_sat _ _ cv t st (uniL 16) 16 w1 (ht.below hb) (hS.below hb) hC hc (uniL_len 16) (by omega) (fun a ha => uniL_row 16 a ha) (uniL_rng 16) hls ok
  have htl := tabV_len (cosT (uniL 16)) t.par (knT (lvs t) st) 16 0 hl.1
  have hlea : ∀ v1 w1, Ints w1 v1 (tabV (cosT (uniL 16)) t.par (knT (lvs t) st) 16 0) → SatV Tryz.prog 25 [v1] w1 (.tuple #[.int .i64 (fitX t st), .int .i64 (minC (fun _ => 0) (tabV (cosT (uniL 16)) t.par (knT (lvs t) st) 16 0) 16).2]) := fun v1 w1 hv => by
    have := least_sat v1 _ w1 hv
    rw [htl] at this
    exact this
  refine SatL.of 36 [4, 5] Tryz.func10 (by kernel_rfl) (by kernel_rfl) rfl rfl rfl rfl ?_
  repeat' (first|(apply OK_seq)|(apply thenQ_n)|(apply OK_region)|(apply OKx_gc 19;exact rfl; refine OKx_call (f := 19) rfl rfl (fun w1 hp => hL3 w1 hp.below) ?_; rintro _ _ ⟨la, nl, lc, rfl, rfl, rfl⟩; simp only [List.cons_append, List.nil_append])|(apply OKx_gc 24;exact rfl; refine OKx_callV (f := 24) rfl rfl rfl (fun w1 hp => hkn w1 hp.below) ?_)|(apply OKx_nilK)|(apply OK_block)|(apply blockQ_n)|(apply blockQ_s)|(apply thenQ_e)|(apply blockQ_e;exact rfl)|(apply thenQ_r)|(apply blockQ_r)|(apply OK_condT;exact rfl)|(apply OK_condF;exact rfl)|(apply OK_skip)|(apply OK_exit)|(apply OK_ret)|(apply OKx_move;(conv=>lhs;whnf)<;>exact rfl)|(apply OKx_assign;(conv=>lhs;whnf)<;>exact rfl)|(apply OKx_ldB;exact rfl;(first | exact at0|exact at1|exact at2|exact at3|exact at4|exact at5|exact at6|exact at7);exact rfl)|(apply OKx_ldR;(conv=>lhs;whnf)<;>exact rfl;(with_reducible assumption))|(apply OKx_len;exact rfl)|(apply OKx_lenR;(conv=>lhs;whnf)<;>exact rfl;(with_reducible assumption))|(apply OKx_lenR2;(conv=>lhs;whnf)<;>exact rfl;(with_reducible assumption))|(apply OKx_lenO;(conv=>lhs;whnf)<;>exact rfl;(first | exact at0|exact at1|exact at2|exact at3|exact at4|exact at5|exact at6|exact at7))|(apply OKx_neq;exact rfl;exact rfl;all_goals (intro _; try (exfalso;omega)))|(apply OKx_idxO;exact rfl;exact rfl;omega)|(apply OKx_idxR;(conv=>lhs;whnf)<;>exact rfl;(with_reducible assumption);exact rfl;omega;intro _ _)|(apply OKx_idxOz;exact rfl;exact rfl;omega;omega)|(apply OKx_idxRz;(conv=>lhs;whnf)<;>exact rfl;(with_reducible assumption);exact rfl;omega;omega;intro _ _)|(apply OKx_extract;exact rfl;(conv=>lhs;whnf)<;>exact rfl)|(apply OKx_boxA;exact rfl;intro _)|(apply OKx_ldBA;exact rfl;(first | exact at0|exact at1|exact at2|exact at3|exact at4|exact at5|exact at6|exact at7);exact rfl)|(apply OKx_ldRA;(conv=>lhs;whnf)<;>exact rfl;(with_reducible assumption))|(refine OKa_end (S := []) (by kernel_rfl) ?_))
  rename_i gT _ _
  repeat' (first|(apply OK_seq)|(apply thenQ_n)|(apply OK_region)|(apply OKx_gc 27;exact rfl; refine OKx_call (f := 27) rfl rfl (fun w1 hp => unit_sat 16 w1 (by omega)) ?_; rintro _ LU ⟨gU, rfl, hU⟩)|(apply OKx_gc 26;exact rfl; refine OKx_call (f := 26) rfl rfl (fun w1 hp => hT w1 _ hp.below (hU w w1 (hp.sub (List.sublist_append_left _ _)))) ?_; rintro _ _ ⟨gO, vs, Z, rfl, rfl, hvl, hZ⟩; have hvat : vs[0]? = some (vs.getD 0 undef) := (by rw [List.getElem?_eq_getElem (by omega), getD_lt vs 0 undef (by omega)]); simp only [List.cons_append, List.nil_append])|(apply OKx_gl; refine OKx_ldW 0 rfl rfl hl.1 hvat ?_)|(apply OKx_gc 25;exact rfl; refine OKx_callV (f := 25) rfl rfl rfl (fun w1 hp => hlea _ w1 (hZ w w1 (hp.drop1.sub (List.sublist_append_left _ _)) 0 hl.1)) ?_)|(refine OK_rid 7 ?_; refine OK_pureAnz2 12 10 3 [0, 1] [.box 25 gT [pv, nv]] [9, 10, 25, 26, 27, 28, 29, 30, 31, 32, 33, 34] 9 10 ((fun v1 v2 L1 => v1 = .int .i64 (fitX t st) ∧ L1 = [])) (id := 7) (by kernel_rfl) (by kernel_rfl) (by kernel_rfl) (by kernel_rfl) (by kernel_rfl) (by kernel_rfl) (by exact Ent.pick [1] rfl) (by ((try simp only [pickO, nthO, List.cons_append, List.nil_append]) <;> exact rfl)) (by kernel_rfl) ?_ (by first | exact thenQ_entN | exact blockQ_entN thenQ_entN) ?_)|(apply OKx_nilK)|(apply OK_block)|(apply blockQ_n)|(apply blockQ_s)|(apply thenQ_e)|(apply blockQ_e;exact rfl)|(apply thenQ_r)|(apply blockQ_r)|(apply OK_condT;exact rfl)|(apply OK_condF;exact rfl)|(apply OK_skip)|(apply OK_exit)|(apply OK_ret)|(apply OKx_move;(conv=>lhs;whnf)<;>exact rfl)|(apply OKx_assign;(conv=>lhs;whnf)<;>exact rfl)|(apply OKx_ldB;exact rfl;(first | exact at0|exact at1|exact at2|exact at3|exact at4|exact at5|exact at6|exact at7);exact rfl)|(apply OKx_ldR;(conv=>lhs;whnf)<;>exact rfl;(with_reducible assumption))|(apply OKx_len;exact rfl)|(apply OKx_lenR;(conv=>lhs;whnf)<;>exact rfl;(with_reducible assumption))|(apply OKx_lenR2;(conv=>lhs;whnf)<;>exact rfl;(with_reducible assumption))|(apply OKx_lenO;(conv=>lhs;whnf)<;>exact rfl;(first | exact at0|exact at1|exact at2|exact at3|exact at4|exact at5|exact at6|exact at7))|(apply OKx_neq;exact rfl;exact rfl;all_goals (intro _; try (exfalso;omega)))|(apply OKx_idxO;exact rfl;exact rfl;omega)|(apply OKx_idxR;(conv=>lhs;whnf)<;>exact rfl;(with_reducible assumption);exact rfl;omega;intro _ _)|(apply OKx_idxOz;exact rfl;exact rfl;omega;omega)|(apply OKx_idxRz;(conv=>lhs;whnf)<;>exact rfl;(with_reducible assumption);exact rfl;omega;omega;intro _ _)|(apply OKx_extract;exact rfl;(conv=>lhs;whnf)<;>exact rfl)|(apply OKx_boxA;exact rfl;intro _)|(apply OKx_ldBA;exact rfl;(first | exact at0|exact at1|exact at2|exact at3|exact at4|exact at5|exact at6|exact at7);exact rfl)|(apply OKx_ldRA;(conv=>lhs;whnf)<;>exact rfl;(with_reducible assumption))|(refine OKd_step1 (S := [0, 1]) (i1 := 2) (S1 := [0, 1, 2]) (.inr (by first | exact Ent.pick [1] rfl | exact Ent.pick [2] rfl | exact Ent.pick [3] rfl | exact Ent.pick [4] rfl | exact Ent.pick [5] rfl | exact Ent.pick [6] rfl | exact Ent.sub (by repeat (first | exact List.Sublist.refl _ | exact List.nil_sublist _ | apply List.sublist_append_of_sublist_right | apply List.Sublist.cons_cons | apply List.Sublist.cons)))) (by kernel_rfl) (by kernel_rfl) rfl ?_)|(refine OKd_step1 (S := [0, 1, 2]) (i1 := 3) (S1 := [0, 1, 2, 3]) (.inr (by first | exact Ent.pick [1] rfl | exact Ent.pick [2] rfl | exact Ent.pick [3] rfl | exact Ent.pick [4] rfl | exact Ent.pick [5] rfl | exact Ent.pick [6] rfl | exact Ent.sub (by repeat (first | exact List.Sublist.refl _ | exact List.nil_sublist _ | apply List.sublist_append_of_sublist_right | apply List.Sublist.cons_cons | apply List.Sublist.cons)))) (by kernel_rfl) (by kernel_rfl) rfl ?_)|(refine OKd_step1 (S := [0, 1, 2, 3]) (i1 := 4) (S1 := [0, 1, 2, 3, 4]) (.inl (by kernel_rfl)) (by kernel_rfl) (by kernel_rfl) rfl ?_)|(refine OKd_step1 (S := [0, 1, 2, 3, 4]) (i1 := 5) (S1 := [0, 1, 2, 3, 4, 5]) (.inl (by kernel_rfl)) (by kernel_rfl) (by kernel_rfl) rfl ?_)|(refine OKd_step1 (S := [0, 1, 2, 3, 4, 5]) (i1 := 6) (S1 := [0, 1, 2, 3, 4, 5, 6]) (.inl (by kernel_rfl)) (by kernel_rfl) (by kernel_rfl) rfl ?_)|(refine OKd_step1 (S := [0, 1, 2, 3, 4, 5, 6]) (i1 := 7) (S1 := [0, 1, 2, 3, 4, 5, 6, 7]) (.inl (by kernel_rfl)) (by kernel_rfl) (by kernel_rfl) rfl ?_)|(refine OKd_step2 (S := [0, 1, 2, 3, 4, 5, 6, 7]) (i1 := 8) (S1 := [0, 1, 2, 3, 4, 5, 6, 7, 8]) (i2 := 9) (S2 := [0, 1, 2, 3, 4, 5, 6, 7, 9]) (.inl (by kernel_rfl)) (by kernel_rfl) (by kernel_rfl) (by kernel_rfl) rfl rfl ?_ ?_)|(refine OKd_step1 (S := [0, 1, 2, 3, 4, 5, 6, 7, 9]) (i1 := 8) (S1 := [0, 1, 2, 3, 4, 5, 6, 7, 8, 9]) (.inl (by kernel_rfl)) (by kernel_rfl) (by kernel_rfl) rfl ?_)|(refine OKd_step1 (S := [0, 1, 2, 3, 4, 5, 6, 7, 8, 9]) (i1 := 10) (S1 := [0, 1, 2, 3, 4, 5, 6, 7, 8, 9, 10]) (.inl (by kernel_rfl)) (by kernel_rfl) (by kernel_rfl) rfl ?_)|(refine OKd_step1 (S := [0, 1, 2, 3, 4, 5, 6, 7, 8, 9, 10]) (i1 := 11) (S1 := [0, 1, 2, 3, 4, 5, 6, 7, 8, 9, 10, 11]) (.inl (by kernel_rfl)) (by kernel_rfl) (by kernel_rfl) rfl ?_)|(refine OKd_end (S := [0, 1, 2, 3, 4, 5, 6, 7, 8, 9, 10, 11]) (by kernel_rfl) (.inl (by kernel_rfl)) ?_)|(refine OKd_step2 (S := [0, 1, 2, 3, 4, 5, 6, 7, 8]) (i1 := 9) (S1 := [0, 1, 2, 3, 4, 5, 6, 7, 8, 9]) (i2 := 10) (S2 := [0, 1, 2, 3, 4, 5, 6, 7, 8, 10]) (.inl (by kernel_rfl)) (by kernel_rfl) (by kernel_rfl) (by kernel_rfl) rfl rfl ?_ ?_)|(refine OKd_step1 (S := [0, 1, 2, 3, 4, 5, 6, 7, 8, 10]) (i1 := 9) (S1 := [0, 1, 2, 3, 4, 5, 6, 7, 8, 9, 10]) (.inl (by kernel_rfl)) (by kernel_rfl) (by kernel_rfl) rfl ?_))
  · rintro v1 v2 L1 G ⟨rfl, rfl⟩
    unfold thenQ
    repeat' (first|(apply OK_seq)|(apply thenQ_n)|(apply OK_region)|(refine OK_rid 7 ?_; refine OK_quiet (id := 7) (by kernel_rfl) (by kernel_rfl) ?_)|(apply OKx_nilK)|(apply OK_block)|(apply blockQ_n)|(apply blockQ_s)|(apply thenQ_e)|(apply blockQ_e;exact rfl)|(apply thenQ_r)|(apply blockQ_r)|(apply OK_condT;exact rfl)|(apply OK_condF;exact rfl)|(apply OK_skip)|(apply OK_exit)|(apply OK_ret)|(apply OKx_move;(conv=>lhs;whnf)<;>exact rfl)|(apply OKx_assign;(conv=>lhs;whnf)<;>exact rfl)|(apply OKx_ldB;exact rfl;(first | exact at0|exact at1|exact at2|exact at3|exact at4|exact at5|exact at6|exact at7);exact rfl)|(apply OKx_ldR;(conv=>lhs;whnf)<;>exact rfl;(with_reducible assumption))|(apply OKx_len;exact rfl)|(apply OKx_lenR;(conv=>lhs;whnf)<;>exact rfl;(with_reducible assumption))|(apply OKx_lenR2;(conv=>lhs;whnf)<;>exact rfl;(with_reducible assumption))|(apply OKx_lenO;(conv=>lhs;whnf)<;>exact rfl;(first | exact at0|exact at1|exact at2|exact at3|exact at4|exact at5|exact at6|exact at7))|(apply OKx_neq;exact rfl;exact rfl;all_goals (intro _; try (exfalso;omega)))|(apply OKx_idxO;exact rfl;exact rfl;omega)|(apply OKx_idxR;(conv=>lhs;whnf)<;>exact rfl;(with_reducible assumption);exact rfl;omega;intro _ _)|(apply OKx_idxOz;exact rfl;exact rfl;omega;omega)|(apply OKx_idxRz;(conv=>lhs;whnf)<;>exact rfl;(with_reducible assumption);exact rfl;omega;omega;intro _ _)|(apply OKx_extract;exact rfl;(conv=>lhs;whnf)<;>exact rfl)|(apply OKx_boxA;exact rfl;intro _)|(apply OKx_ldBA;exact rfl;(first | exact at0|exact at1|exact at2|exact at3|exact at4|exact at5|exact at6|exact at7);exact rfl)|(apply OKx_ldRA;(conv=>lhs;whnf)<;>exact rfl;(with_reducible assumption)))
    refine bodyQ_r2 (by ((conv=>lhs;whnf)<;>exact rfl)) (by ((conv=>lhs;whnf)<;>exact rfl)) ?_
    exact ⟨_, Ent.nil, rfl, rfl⟩
  all_goals
    exact ⟨by (repeat' (first | refine agree_upd rfl ?_ | exact agree_over | exact agree_refl _ _ | refine agree_over2 rfl ?_)), [], Ent.nil, rfl, rfl⟩
end Go.Proofs.YtpknpbeiifjmgaaGreat
namespace Go.Proofs.YtpknpbeiifjmgaaGreat
open Go.RowKit
theorem idxFrom_at2 (x : Int) : ∀ (zs : List Int) (i : Nat), 0 ≤ Lib.idxFrom zs x i → ∃ q : Nat, Lib.idxFrom zs x i = ((i + q : Nat) : Int) ∧ q < zs.length ∧ zs.getD q 0 = x
  | [], i, h => by simp [Lib.idxFrom] at h
  | z :: zs, i, h => by
    simp only [Lib.idxFrom] at h ⊢
    split at h
    · rename_i e; rw [if_pos e]; exact ⟨0, rfl, by simp, e.symm ▸ rfl⟩
    · rename_i e
      obtain ⟨q, h1, h2, h3⟩ := idxFrom_at2 x zs (i + 1) h
      rw [if_neg e]
      exact ⟨q + 1, by rw [h1]; congr 1;omega, by simpa using h2, by simpa using h3⟩
end Go.Proofs.YtpknpbeiifjmgaaGreat
