/-
  Part 14 of the proof: Anx, In33. No statement of the seat is proved here.
-/
import Derived.Test.YtpknpbeiifjmgaaGreatMHPs3313
namespace Go.Proofs.YtpknpbeiifjmgaaGreat
open Go.RowKit
section
variable {P : Program} {ops : Array Oper} {Q : Exit → Act → World → Prop}
def pureLB (ops : Array Oper) : List Nat → Array Bool → Bool
  | [], _ => true
  | i :: E, listed => stepB ops [] listed i && pureLB ops E (listed.setIfInBounds i true)
def listE (E : List Nat) (listed : Array Bool) : Array Bool := E.foldl (fun l i => l.setIfInBounds i true) listed
theorem wpPure_mono {C : World → Prop} {Q1 Q2 : Act → Prop} (hq : ∀ a, Q1 a → Q2 a) : ∀ (l : List Oper) (a : Act), wpPure P ops C Q1 l a → wpPure P ops C Q2 l a
  | [], a, h => hq _ h
  | o :: l, a, h => by
    unfold wpPure at h ⊢
    split
    · rename_i hw
      rw [if_pos hw] at h
      obtain ⟨v, h1, h2⟩ := h
      exact ⟨v, h1, wpPure_mono hq l _ h2⟩
    · rename_i hw
      rw [if_neg hw] at h
      exact wpPure_mono hq l _ h
end
section
variable {P : Program} {n : Nat} {w0 : World} {Q : Exit → Fm → List Res → Prop} {K : Fm → List Res → Prop} {F : Fm} {L Lw : List Res} {l : List Oper} {N f : Nat} {S : List Nat}
def OKc (P : Program) (n : Nat) (w0 : World) (Lw : List Res) (K : Fm → List Res → Prop) (l : List Oper) (N f : Nat) (S : List Nat) (F : Fm) (L : List Res) : Prop :=
  ∀ w a, Fr n a F → Hp w0.heap.size w0 w L → anyC P l.toArray (fun _ w => Hp w0.heap.size w0 w Lw) (liftN n w0 K) f (maskS N S) a w
theorem OKc.use (h : OKc P n w0 Lw K l N f S F L) : ∀ w a, Fr n a F → Hp w0.heap.size w0 w L → anyC P l.toArray (fun _ w => Hp w0.heap.size w0 w Lw) (liftN n w0 K) f (maskS N S) a w := h
theorem thenQ_entN {c : Code} : ∀ F2 L2 L3, Ent w0 L2 L3 → thenQ (fun F L => OK P n w0 Q c F L) Q .normal F2 L3 → thenQ (fun F L => OK P n w0 Q c F L) Q .normal F2 L2 := fun F2 L2 L3 e h => by
  unfold thenQ at *
  exact OK_ent e h
end
attribute [irreducible] OKc
end Go.Proofs.YtpknpbeiifjmgaaGreat
namespace Go.Proofs.YtpknpbeiifjmgaaGreat
open Go.RowKit
section
variable {P : Program} {n : Nat} {w0 : World} {Q : Exit → Fm → List Res → Prop} {F : Fm} {L : List Res} {l : List Oper} {N f : Nat} {S : List Nat}
def OKi (P : Program) (n : Nat) (w0 : World) (Q : Exit → Fm → List Res → Prop) (l : List Oper) (N f : Nat) (S : List Nat) (F : Fm) (L : List Res) : Prop :=
  ∀ w a, Fr n a F → Hp w0.heap.size w0 w L → wpAnyIn (fen none) 0 P .any l.toArray (lift n w0 Q) f (maskS N S) a w
theorem OKi.use (h : OKi P n w0 Q l N f S F L) : ∀ w a, Fr n a F → Hp w0.heap.size w0 w L → wpAnyIn (fen none) 0 P .any l.toArray (lift n w0 Q) f (maskS N S) a w := h
theorem OKi_end (hr : (Region.ready .any l.toArray (maskS N S)).isEmpty = true) (h : Q .normal F L) : OKi P n w0 Q l N 0 S F L :=
  fun _ _ hf hp => ⟨List.isEmpty_iff.1 hr, F, L, hf, hp, h⟩
theorem OKi_stepG (kids : List (Nat × List Nat)) (hr : Region.ready .any l.toArray (maskS N S) = kids.map (·.1)) (hne : kids ≠ []) (h : ∀ k ∈ kids, maskS N k.2 = (maskS N S).setIfInBounds k.1 true ∧ ∃ o, l[k.1]? = some o ∧ noDef o = true ∧ OKx P n w0 (.seq []) l.toArray (fun F L => OKi P n w0 Q l N f k.2 F L) [o] F L) :
    OKi P n w0 Q l N (f + 1) S F L := by
  intro w a hf hp
  refine ⟨fun h0 => ?_, fun i hi => ?_⟩
  · rw [hr] at h0
    exact absurd (List.map_eq_nil_iff.1 h0) hne
  · rw [hr] at hi
    obtain ⟨k, hk, rfl⟩ := List.mem_map.1 hi
    obtain ⟨hm, o, ho, hn, hx⟩ := h k hk
    obtain ⟨_, h1⟩ := hx.use w a hf hp
    unfold wpOpIn
    have ho' : l.toArray[k.1]? = some o := by simpa using ho
    rw [ho']
    dsimp only
    rw [← hm]
    split
    · rename_i hw
      rw [if_pos hw] at h1
      refine oper_in hn liftN_noPanic liftN_noOut (Oper.wp_mono ?_ h1)
      rintro a2 w2 ⟨_, _, F', L', h2, h3, h4⟩
      exact OKi.use h4 _ _ h2 h3
    · rename_i hw
      rw [if_neg hw] at h1
      obtain ⟨_, _, F', L', h2, h3, h4⟩ := h1
      exact ⟨fun f _ => fen_fn none f, OKi.use h4 _ _ h2 h3⟩
theorem OKi_step1 {i1 : Nat} {S1 : List Nat} {o1 : Oper} (hr : Region.ready .any l.toArray (maskS N S) = [i1]) (m1 : kidOk l N S i1 S1 = true) (g1 : l[i1]? = some o1) (d1 : noDef o1 = true)
    (k1 : OKx P n w0 (.seq []) l.toArray (fun F L => OKi P n w0 Q l N f S1 F L) [o1] F L) : OKi P n w0 Q l N (f + 1) S F L :=
  OKi_stepG [(i1, S1)] hr (by simp) fun k hk => by
    obtain rfl := List.mem_singleton.1 hk
    exact ⟨kidOk_eq m1, o1, g1, d1, k1⟩
theorem OKi_step2 {i1 i2 : Nat} {S1 S2 : List Nat} {o1 o2 : Oper} (hr : Region.ready .any l.toArray (maskS N S) = [i1, i2]) (m1 : kidOk l N S i1 S1 = true) (m2 : kidOk l N S i2 S2 = true) (g1 : l[i1]? = some o1) (g2 : l[i2]? = some o2) (d1 : noDef o1 = true) (d2 : noDef o2 = true)
    (k1 : OKx P n w0 (.seq []) l.toArray (fun F L => OKi P n w0 Q l N f S1 F L) [o1] F L) (k2 : OKx P n w0 (.seq []) l.toArray (fun F L => OKi P n w0 Q l N f S2 F L) [o2] F L) : OKi P n w0 Q l N (f + 1) S F L :=
  OKi_stepG [(i1, S1), (i2, S2)] hr (by simp) fun k hk => by
    simp only [List.mem_cons, List.not_mem_nil, or_false] at hk
    rcases hk with rfl | rfl
    · exact ⟨kidOk_eq m1, o1, g1, d1, k1⟩
    · exact ⟨kidOk_eq m2, o2, g2, d2, k2⟩
theorem OKi_step3 {i1 i2 i3 : Nat} {S1 S2 S3 : List Nat} {o1 o2 o3 : Oper} (hr : Region.ready .any l.toArray (maskS N S) = [i1, i2, i3]) (m1 : kidOk l N S i1 S1 = true) (m2 : kidOk l N S i2 S2 = true) (m3 : kidOk l N S i3 S3 = true) (g1 : l[i1]? = some o1) (g2 : l[i2]? = some o2) (g3 : l[i3]? = some o3) (d1 : noDef o1 = true) (d2 : noDef o2 = true) (d3 : noDef o3 = true)
    (k1 : OKx P n w0 (.seq []) l.toArray (fun F L => OKi P n w0 Q l N f S1 F L) [o1] F L) (k2 : OKx P n w0 (.seq []) l.toArray (fun F L => OKi P n w0 Q l N f S2 F L) [o2] F L) (k3 : OKx P n w0 (.seq []) l.toArray (fun F L => OKi P n w0 Q l N f S3 F L) [o3] F L) : OKi P n w0 Q l N (f + 1) S F L :=
  OKi_stepG [(i1, S1), (i2, S2), (i3, S3)] hr (by simp) fun k hk => by
    simp only [List.mem_cons, List.not_mem_nil, or_false] at hk
    rcases hk with rfl | rfl | rfl
    · exact ⟨kidOk_eq m1, o1, g1, d1, k1⟩
    · exact ⟨kidOk_eq m2, o2, g2, d2, k2⟩
    · exact ⟨kidOk_eq m3, o3, g3, d3, k3⟩
theorem OKi_yield {i : Nat} {S1 : List Nat} {d : Option Nat} {fo : Operand} {args : Array Operand} {tt : Array TypeId} {ty : TypeId} {pos : String} {aft : Array Edge} {j t : Nat} {b : Bool} (hr : Region.ready .any l.toArray (maskS N S) = [i]) (m1 : kidOk l N S i S1 = true)
    (g1 : l[i]? = some ⟨d, .call { callee := .value fo, args := args, argTypes := tt }, ty, pos, aft, some (j, b)⟩) (hj : (l.toArray[j]?).bind (·.dst) = some t) (hb : rv n F (.tmp t) = .bool b)
    (h : ∃ (y : Nat) (av : List Value) (R : Value → List Res → Prop), rv n F fo = .func (.yield y) #[] #[] ∧ args.toList.map (rv n F) = av ∧ SatY P y av w0 L R ∧ ∀ v L', R v L' → OKi P n w0 Q l N f S1 (updo F d v) L') : OKi P n w0 Q l N (f + 1) S F L := by
  intro w a hf hp
  refine ⟨fun h0 => ?_, fun i2 hi => ?_⟩
  · rw [hr] at h0; cases h0
  · rw [hr] at hi
    obtain rfl := List.mem_singleton.1 hi
    have ho' : l.toArray[i2]? = some ⟨d, .call { callee := .value fo, args := args, argTypes := tt }, ty, pos, aft, some (j, b)⟩ := by simpa using g1
    unfold wpOpIn
    rw [ho']
    dsimp only
    have hw : Region.wanted (⟨d, .call { callee := .value fo, args := args, argTypes := tt }, ty, pos, aft, some (j, b)⟩ : Oper) (yielded l.toArray a.tmps) = true := by
      simp [Region.wanted, hf.yield hj hb]
    rw [if_pos hw]
    obtain ⟨y, av, R, h1, h2, hy, h3⟩ := h
    obtain ⟨fn, tmps, assign, body, hrun, hround⟩ := hy w hp
    refine ⟨fun f _ => trivial, ?_⟩
    have hexec : ((⟨d, .call { callee := .value fo, args := args, argTypes := tt }, ty, pos, aft, some (j, b)⟩ : Oper).semAt (fen none).round a.eval).run P w = .ok (.round y fn tmps assign body) w := by
      have e : Array.map (rv n F) args = av.toArray := by rw [← Array.toList_inj, ← h2]; simp
      have hr : (fen none).round = none := rfl
      rw [hr, Oper.semAt_none, hf.eval]
      simp only [execOp, resolve, h1, Deferred.ofValue, Sem.run_bind, Sem.run_pure, Result.andThen, invoke, Array.empty_append, Array.append_empty, e, hrun]
    rw [hexec]
    refine ⟨fun h => (by cases h), hround.mono ?_⟩
    rintro e w2 ⟨v, L', rfl, hp2, hR⟩
    rw [← kidOk_eq m1]
    exact (h3 v L' hR).use w2 _ (hf.put d v) hp2
theorem OKi_meet (W : List Nat) (s fS : Nat) (S : List Nat) (Mid : Value → List Res → Prop) (h2 : ∀ v L1 G, Mid v L1 → OKi P n w0 Q l N fS S (upd (over W G F) s v) L1) (h1 : (∀ F2 L2, (agree W F2 F ∧ Mid (F2 (some s)) L2) → OKi P n w0 Q l N fS S F2 L2) → OKi P n w0 Q l N N [] F L) : OKi P n w0 Q l N N [] F L :=
  h1 fun F2 L2 ⟨ha, hM⟩ => by
    have := h2 _ L2 F2 hM
    rwa [← over_upd ha, upd_self] at this
theorem OK_regionI (N : Nat) {id : Nat} (hm : P.follows .mixedOrders = true) (hN : Nat.beq l.length N = true) (h : OKi P n w0 Q l N N [] F L) : OK P n w0 Q (.region id l.toArray true) F L := by
  obtain rfl : l.length = N := Nat.eq_of_beq_eq_true hN
  refine OK.mk' fun w a hf hp => (wpIn_wide (n := 0)).1 (wpIn_region_any hm ?_)
  have e0 : maskS l.length [] = Array.replicate l.toArray.size false := by
    unfold maskS
    rw [← Array.toList_inj]
    simp only [List.size_toArray, Array.toList_replicate]
    refine List.ext_getElem (by simp) fun j h1 h2 => ?_
    simp [memN]
  have := h.use _ a hf hp.drew
  rw [e0] at this
  exact this
end
attribute [irreducible] OKi
def setN (F : Fm) (mv : Value) : Fm
  | some i => F (some i)
  | none => mv
def agreeM (W : List Nat) (F' F : Fm) : Prop := ∀ i, memN i W = false → F' (some i) = F (some i)
theorem agreeM_refl (W : List Nat) (F : Fm) : agreeM W F F := fun _ _ => rfl
theorem agreeM_upd {W : List Nat} {F' F : Fm} {d : Nat} {v : Value} (h : memN d W = true) (ha : agreeM W F' F) : agreeM W (upd F' d v) F := by
  intro i hi
  have : i ≠ d := by rintro rfl; rw [h] at hi; cases hi
  rw [upd_ne _ _ this]
  exact ha i hi
theorem agreeM_over {W : List Nat} {G F : Fm} : agreeM W (over W G F) F := by
  intro i hi
  simp [over, hi]
theorem agreeM_push {W : List Nat} {F' F : Fm} {D : Nat} (ha : agreeM W F' F) : agreeM W (pushD F' D) F := fun i hi => ha i hi
theorem agreeM_set {W : List Nat} {F' F : Fm} {mv : Value} (ha : agreeM W F' F) : agreeM W (setN F' mv) F := fun i hi => ha i hi
section
variable {P : Program} {n : Nat} {w0 : World} {Q : Exit → Fm → List Res → Prop} {F : Fm} {L : List Res}
theorem over_setN {W : List Nat} {F' F : Fm} (ha : agreeM W F' F) : F' = setN (over W F' F) (F' none) := by
  funext i
  cases i with
  | none => rfl
  | some i =>
    show F' (some i) = over W F' F (some i)
    simp only [over]
    cases h : memN i W with
    | true => rfl
    | false => exact ha i h
theorem OK_loopM1 (s1 : Nat) (W : List Nat) {body : Code} (R : Nat → Value → Value → List Res → Prop) (m0 : Nat) (L1 : List Res) (e : Ent w0 L L1) (h0 : R m0 (F (some s1)) (F none) L1)
    (hr : ∀ m v1 mv L' G, R m v1 mv L' → OK P n w0 (thenQ (fun F'' L'' => agreeM W F'' F ∧ ∃ m' L1, m' < m ∧ Ent w0 L'' L1 ∧ R m' (F'' (some s1)) (F'' none) L1) Q) body (setN (upd (over W G F) s1 v1) mv) L') : OK P n w0 Q (.loop body) F L := by
  refine OK_loop (fun m F' L' => agreeM W F' F ∧ ∃ L1, Ent w0 L' L1 ∧ R m (F' (some s1)) (F' none) L1) m0 ⟨agreeM_refl _ _, L1, e, h0⟩ ?_
  rintro m F' L' ⟨ha, L1, e, hR⟩
  have hk := hr m (F' (some s1)) (F' none) L1 F' hR
  have e9 : setN (upd (over W F' F) s1 (F' (some s1))) (F' none) = F' := by
    have h1 := over_setN ha
    funext i
    cases i with
    | none => rfl
    | some i =>
      show upd (over W F' F) s1 (F' (some s1)) (some i) = F' (some i)
      by_cases hi : i = s1
      · subst hi; simp [upd]
      · rw [upd_ne _ _ hi]
        exact (congrFun h1 (some i)).symm
  rw [e9] at hk
  exact OK_mono (OK_ent e hk) fun ex F'' L'' h => by
    unfold thenQ at h ⊢
    cases ex with
    | normal => obtain ⟨h1, m', L2, h2, h3, h4⟩ := h; exact ⟨m', h2, h1, L2, h3, h4⟩
    | _ => exact h
end
end Go.Proofs.YtpknpbeiifjmgaaGreat
