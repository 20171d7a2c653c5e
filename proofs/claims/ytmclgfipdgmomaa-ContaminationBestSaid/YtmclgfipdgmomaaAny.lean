/-
  Regions that draw their order, where operations that act float: each order is walked, up to a set of operations done where all the roads meet. No statement of the seat is proved here.
-/
import Derived.Test.YtmclgfipdgmomaaMx
namespace Go.Proofs.Ytmclgfipdgmomaa
open Go.RowKit

def maskS (n : Nat) (S : List Nat) : Array Bool := ((List.range n).map fun i => memN i S).toArray
section
variable {P : Program} {n : Nat} {w0 : World} {Q : Exit → Fm → List Res → Prop} {K : Fm → List Res → Prop} {F : Fm} {L : List Res} {l : List Oper} {N f : Nat} {S : List Nat}
/-- S is done. -/
def OKa (P : Program) (n : Nat) (w0 : World) (K : Fm → List Res → Prop) (l : List Oper) (N f : Nat) (S : List Nat) (F : Fm) (L : List Res) : Prop :=
  ∀ w a, Fr n a F → Hp w0.heap.size w0 w L → wpAny P .any l.toArray (liftN n w0 K) f (maskS N S) a w
theorem OKa.use (h : OKa P n w0 K l N f S F L) : ∀ w a, Fr n a F → Hp w0.heap.size w0 w L → wpAny P .any l.toArray (liftN n w0 K) f (maskS N S) a w := h
theorem OKa_ent {L' : List Res} (e : Ent w0 L L') (h : OKa P n w0 K l N f S F L') : OKa P n w0 K l N f S F L := fun w a hf hp => h w a hf (e.use w hp)
theorem OK_anyR {id : Nat} (N : Nat) (hm : P.follows .mixedOrders = true) (hN : Nat.beq l.length N = true) (h : OKa P n w0 (Q .normal) l N N [] F L) : OK P n w0 Q (.region id l.toArray true) F L := by
  obtain rfl : l.length = N := Nat.eq_of_beq_eq_true hN
  refine OK.mk' fun w a hf hp => wp_region_any hm ?_
  have h1 := h w.drew a hf hp.drew
  have e : maskS l.length [] = Array.replicate l.toArray.size false := by
    unfold maskS
    apply Array.ext
    · simp
    · intro i h1 h2; simp [memN]
  rw [e] at h1
  have wm : ∀ (f : Nat) (ls : Array Bool) (a : Act) (w : World), wpAny P .any l.toArray (liftN n w0 (Q .normal)) f ls a w → wpAny P .any l.toArray (lift n w0 Q) f ls a w := by
    intro f
    induction f with
    | zero =>
      rintro ls a w ⟨h1, _, F', L', h2, h3, h4⟩
      exact ⟨h1, F', L', h2, h3, h4⟩
    | succ f ih =>
      rintro ls a w ⟨h1, h2⟩
      refine ⟨fun h0 => ?_, fun i hi => ?_⟩
      · obtain ⟨_, F', L', h2, h3, h4⟩ := h1 h0
        exact ⟨F', L', h2, h3, h4⟩
      · have h5 := h2 i hi
        unfold wpOp at h5 ⊢
        split
        · rename_i ho
          simp only [ho] at h5
          exact ih _ _ _ h5
        · rename_i o ho
          simp only [ho] at h5
          split
          · rename_i hw
            rw [if_pos hw] at h5
            rcases h5 with h5 | ⟨_, a9, w9, h9, _⟩
            · exact .inl (wp_anyQ (fun c a w h => by cases h.1) (by rintro ⟨a, w, h, _⟩; cases h) (Oper.wp_mono (fun a w h => ih _ _ _ h) h5))
            · cases h9
          · rename_i hw
            rw [if_neg hw] at h5
            exact ih _ _ _ h5
  have h2 := wm _ _ _ _ h1
  have e2 : l.toArray.size = l.length := by simp
  rw [e2]
  rw [e2] at h2
  exact h2
theorem OKa_end (hr : (Region.ready .any l.toArray (maskS N S)).isEmpty = true) (h : K F L) : OKa P n w0 K l N 0 S F L :=
  fun w a hf hp => ⟨List.isEmpty_iff.1 hr, rfl, F, L, hf, hp, h⟩
theorem OKa_stepG (kids : List (Nat × List Nat)) (hr : Region.ready .any l.toArray (maskS N S) = kids.map (·.1)) (hne : kids ≠ []) (h : ∀ k ∈ kids, maskS N k.2 = (maskS N S).setIfInBounds k.1 true ∧ ∃ o, l[k.1]? = some o ∧ OKx P n w0 (.seq []) l.toArray (fun F L => OKa P n w0 K l N f k.2 F L) [o] F L) :
    OKa P n w0 K l N (f + 1) S F L := by
  intro w a hf hp
  refine ⟨fun h0 => ?_, fun i hi => ?_⟩
  · rw [hr] at h0
    exact absurd (List.map_eq_nil_iff.1 h0) hne
  · rw [hr] at hi
    obtain ⟨k, hk, rfl⟩ := List.mem_map.1 hi
    obtain ⟨hm, o, ho, hx⟩ := h k hk
    obtain ⟨_, h1⟩ := hx.use w a hf hp
    unfold wpOp
    have ho' : l.toArray[k.1]? = some o := by simpa using ho
    rw [ho']
    dsimp only
    rw [← hm]
    split
    · rename_i hw
      rw [if_pos hw] at h1
      refine .inl (Oper.wp_mono ?_ (wp_anyQ (fun c a w h => by cases h.1) (by rintro ⟨a, w, h, _⟩; cases h) h1))
      rintro a2 w2 ⟨_, _, F', L', h2, h3, h4⟩
      exact OKa.use h4 _ _ h2 h3
    · rename_i hw
      rw [if_neg hw] at h1
      obtain ⟨_, _, F', L', h2, h3, h4⟩ := h1
      exact OKa.use h4 _ _ h2 h3
def kidOk (l : List Oper) (N : Nat) (S : List Nat) (i : Nat) (S' : List Nat) : Bool := (maskS N S').toList == ((maskS N S).setIfInBounds i true).toList
theorem kidOk_eq {i : Nat} {S' : List Nat} (h : kidOk l N S i S' = true) : maskS N S' = (maskS N S).setIfInBounds i true := by
  unfold kidOk at h
  exact Array.toList_inj.1 (beq_iff_eq.1 h)
theorem OKa_step1 {i1 : Nat} {S1 : List Nat} {o1 : Oper} (hr : Region.ready .any l.toArray (maskS N S) = [i1]) (m1 : kidOk l N S i1 S1 = true) (g1 : l[i1]? = some o1)
    (k1 : OKx P n w0 (.seq []) l.toArray (fun F L => OKa P n w0 K l N f S1 F L) [o1] F L) : OKa P n w0 K l N (f + 1) S F L :=
  OKa_stepG [(i1, S1)] hr (by simp) fun k hk => by
    obtain rfl := List.mem_singleton.1 hk
    exact ⟨kidOk_eq m1, o1, g1, k1⟩
theorem OKa_step2 {i1 i2 : Nat} {S1 S2 : List Nat} {o1 o2 : Oper} (hr : Region.ready .any l.toArray (maskS N S) = [i1, i2]) (m1 : kidOk l N S i1 S1 = true) (m2 : kidOk l N S i2 S2 = true) (g1 : l[i1]? = some o1) (g2 : l[i2]? = some o2)
    (k1 : OKx P n w0 (.seq []) l.toArray (fun F L => OKa P n w0 K l N f S1 F L) [o1] F L) (k2 : OKx P n w0 (.seq []) l.toArray (fun F L => OKa P n w0 K l N f S2 F L) [o2] F L) : OKa P n w0 K l N (f + 1) S F L :=
  OKa_stepG [(i1, S1), (i2, S2)] hr (by simp) fun k hk => by
    simp only [List.mem_cons, List.not_mem_nil, or_false] at hk
    rcases hk with rfl | rfl
    · exact ⟨kidOk_eq m1, o1, g1, k1⟩
    · exact ⟨kidOk_eq m2, o2, g2, k2⟩
theorem OKa_step3 {i1 i2 i3 : Nat} {S1 S2 S3 : List Nat} {o1 o2 o3 : Oper} (hr : Region.ready .any l.toArray (maskS N S) = [i1, i2, i3]) (m1 : kidOk l N S i1 S1 = true) (m2 : kidOk l N S i2 S2 = true) (m3 : kidOk l N S i3 S3 = true) (g1 : l[i1]? = some o1) (g2 : l[i2]? = some o2) (g3 : l[i3]? = some o3)
    (k1 : OKx P n w0 (.seq []) l.toArray (fun F L => OKa P n w0 K l N f S1 F L) [o1] F L) (k2 : OKx P n w0 (.seq []) l.toArray (fun F L => OKa P n w0 K l N f S2 F L) [o2] F L) (k3 : OKx P n w0 (.seq []) l.toArray (fun F L => OKa P n w0 K l N f S3 F L) [o3] F L) : OKa P n w0 K l N (f + 1) S F L :=
  OKa_stepG [(i1, S1), (i2, S2), (i3, S3)] hr (by simp) fun k hk => by
    simp only [List.mem_cons, List.not_mem_nil, or_false] at hk
    rcases hk with rfl | rfl | rfl
    · exact ⟨kidOk_eq m1, o1, g1, k1⟩
    · exact ⟨kidOk_eq m2, o2, g2, k2⟩
    · exact ⟨kidOk_eq m3, o3, g3, k3⟩
theorem OKa_step4 {i1 i2 i3 i4 : Nat} {S1 S2 S3 S4 : List Nat} {o1 o2 o3 o4 : Oper} (hr : Region.ready .any l.toArray (maskS N S) = [i1, i2, i3, i4]) (m1 : kidOk l N S i1 S1 = true) (m2 : kidOk l N S i2 S2 = true) (m3 : kidOk l N S i3 S3 = true) (m4 : kidOk l N S i4 S4 = true) (g1 : l[i1]? = some o1) (g2 : l[i2]? = some o2) (g3 : l[i3]? = some o3) (g4 : l[i4]? = some o4)
    (k1 : OKx P n w0 (.seq []) l.toArray (fun F L => OKa P n w0 K l N f S1 F L) [o1] F L) (k2 : OKx P n w0 (.seq []) l.toArray (fun F L => OKa P n w0 K l N f S2 F L) [o2] F L) (k3 : OKx P n w0 (.seq []) l.toArray (fun F L => OKa P n w0 K l N f S3 F L) [o3] F L) (k4 : OKx P n w0 (.seq []) l.toArray (fun F L => OKa P n w0 K l N f S4 F L) [o4] F L) : OKa P n w0 K l N (f + 1) S F L :=
  OKa_stepG [(i1, S1), (i2, S2), (i3, S3), (i4, S4)] hr (by simp) fun k hk => by
    simp only [List.mem_cons, List.not_mem_nil, or_false] at hk
    rcases hk with rfl | rfl | rfl | rfl
    · exact ⟨kidOk_eq m1, o1, g1, k1⟩
    · exact ⟨kidOk_eq m2, o2, g2, k2⟩
    · exact ⟨kidOk_eq m3, o3, g3, k3⟩
    · exact ⟨kidOk_eq m4, o4, g4, k4⟩
/-- All the roads meet where S is done; there the slots s1 to s4 and what is owned are as Mid says. -/
theorem OK_any4 (N f : Nat) (S W : List Nat) (s1 s2 s3 s4 : Nat) (Mid : Value → Value → Value → Value → List Res → Prop) {id : Nat} (hm : P.follows .mixedOrders = true) (hN : Nat.beq l.length N = true)
    (h2 : ∀ v1 v2 v3 v4 L1 G, Mid v1 v2 v3 v4 L1 → OKa P n w0 (Q .normal) l N f S (upd (upd (upd (upd (over W G F) s1 v1) s2 v2) s3 v3) s4 v4) L1)
    (h1 : (∀ F'' L'', (agree W F'' F ∧ ∃ L1, Ent w0 L'' L1 ∧ Mid (F'' (some s1)) (F'' (some s2)) (F'' (some s3)) (F'' (some s4)) L1) → OKa P n w0 (Q .normal) l N f S F'' L'') → OKa P n w0 (Q .normal) l N N [] F L) :
    OK P n w0 Q (.region id l.toArray true) F L := by
  refine OK_anyR N hm hN (h1 ?_)
  rintro F'' L'' ⟨ha, L1, e, hM⟩
  have hk := h2 _ _ _ _ L1 F'' hM
  rw [← over_upd ha, upd_self, upd_self, upd_self, upd_self] at hk
  exact OKa_ent e hk
end
attribute [irreducible] OKa
end Go.Proofs.Ytmclgfipdgmomaa
