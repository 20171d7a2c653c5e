/-
  Part 1 of the proof: Hp, Mix. No statement of the seat is proved here.
-/
import Derived.Test.YthnlnffmmioapaaGreatDoorRows
import Derived.WalkKit
import Derived.WalkSpells
import Derived.WalkLawsBesides
import Derived.Lib.Hide
import Derived.Maps.AppendAt
import Derived.Deep.RegionHeld3
import Derived.Deep.Quiet
import Derived.StillTail
namespace Go.Proofs.YthnlnffmmioapaaGreatDoor
open Go.RowKit
structure Sl (w : World) (v : Value) (sz n : Nat) (f : Nat → Value) : Prop where
  len : n ≤ 140737488355328
  out : ∃ a cap, v = .slice a n cap ∧ (n = 0 ∨ ∃ b off, a = some ⟨b, off, none⟩ ∧ ∀ j, j < n * sz → w.cell? ⟨b, off + j, none⟩ = some (f j))
  room : ∀ a m c, v = .slice a m c → m ≤ c
inductive Res where
  | row (e : TypeId) (sz : Nat) (v : Value) (n : Nat) (xs : List Value)
  | box (e : TypeId) (g : Nat) (cs : List Value)
  | obj (g : Nat) (p : Obj → Prop)
  | mark (g : Nat)
def Res.blk : Res → Option Nat
  | .row _ _ v _ _ => v.ownBlock
  | .box _ g _ => some g
  | .obj g _ => some g
  | .mark g => some g
def Res.ok (w : World) (B : Nat) : Res → Prop
  | .row e sz v n xs => w.ownsRow B e sz v n xs
  | .box e g cs => B ≤ g ∧ w.heap[g]? = some (.cells cs.toArray e (0, 0))
  | .obj g p => B ≤ g ∧ ∃ o, w.heap[g]? = some o ∧ p o
  | .mark g => B ≤ g ∧ w.heap[g]? = some (.deferred (some []))
structure Hp (B : Nat) (w0 w : World) (L : List Res) : Prop where
  below : Below B w0 w
  base : B ≤ w.heap.size
  ok : ∀ r ∈ L, r.ok w B
  dj : L.Pairwise (fun r s => r.blk = none ∨ r.blk ≠ s.blk)
theorem Res.ok.lt {w : World} {B : Nat} {r : Res} (h : r.ok w B) {k : Nat} (hk : r.blk = some k) : B ≤ k ∧ k < w.heap.size := by
  cases r with
  | row e sz v n xs => exact World.ownsRow.lt h k hk
  | box e g cs =>
    simp only [Res.blk, Option.some.injEq] at hk; subst hk
    exact ⟨h.1, (Array.getElem?_eq_some_iff.1 h.2).1⟩
  | obj g p =>
    simp only [Res.blk, Option.some.injEq] at hk; subst hk
    obtain ⟨h1, o, h2, _⟩ := h
    exact ⟨h1, (Array.getElem?_eq_some_iff.1 h2).1⟩
  | mark g =>
    simp only [Res.blk, Option.some.injEq] at hk; subst hk
    exact ⟨h.1, (Array.getElem?_eq_some_iff.1 h.2).1⟩
theorem Res.ok.of_block {w w' : World} {B : Nat} {r : Res} (h : r.ok w B) (hb : ∀ k, r.blk = some k → w'.heap[k]? = w.heap[k]?) : r.ok w' B := by
  cases r with
  | row e sz v n xs =>
    refine ⟨h.1, ?_⟩
    rcases h.2 with h2 | ⟨g, cap, cur, rfl, hg, hh, r⟩
    · exact .inl h2
    · exact .inr ⟨g, cap, cur, rfl, hg, by rw [hb g rfl]; exact hh, r⟩
  | box e g cs => exact ⟨h.1, by rw [hb g rfl]; exact h.2⟩
  | obj g p =>
    obtain ⟨h1, o, h2, h3⟩ := h
    exact ⟨h1, o, by rw [hb g rfl]; exact h2, h3⟩
  | mark g => exact ⟨h.1, by rw [hb g rfl]; exact h.2⟩
variable {B : Nat} {w0 w w' : World} {L : List Res}
theorem Hp.refl (w : World) : Hp w.heap.size w w [] := ⟨Below.refl _ _, Nat.le_refl _, by simp, List.Pairwise.nil⟩
theorem Hp.grow (h : Hp B w0 w L) (hb : Below w.heap.size w w') : Hp B w0 w' L :=
  ⟨h.below.trans (hb.mono h.base), Nat.le_trans h.base hb.size, fun r hr => (h.ok r hr).of_block fun k hk => hb.block k ((h.ok r hr).lt hk).2, h.dj⟩
theorem Hp.drew (h : Hp B w0 w L) : Hp B w0 w.drew L :=
  ⟨h.below.drew, h.base, fun r hr => (h.ok r hr).of_block fun _ _ => rfl, h.dj⟩
theorem Hp.drewN (h : Hp B w0 w L) (n : Nat) : Hp B w0 (w.drewN n) L :=
  ⟨below_drewN h.below n, h.base, fun r hr => (h.ok r hr).of_block fun _ _ => rfl, h.dj⟩
theorem Hp.call (h : Hp B w0 w L) {L' : List Res} (hb : Hp w.heap.size w w' L') : Hp B w0 w' (L' ++ L) := by
  have hg := h.grow hb.below
  refine ⟨hg.below, hg.base, ?_, ?_⟩
  · intro r hr
    rcases List.mem_append.1 hr with hr | hr
    · have := hb.ok r hr
      cases r with
      | row e sz v n xs =>
        refine ⟨this.1, ?_⟩
        rcases this.2 with h2 | ⟨g, cap, cur, rfl, hgg, rest⟩
        · exact .inl h2
        · exact .inr ⟨g, cap, cur, rfl, Nat.le_trans h.base hgg, rest⟩
      | box e g cs => exact ⟨Nat.le_trans h.base this.1, this.2⟩
      | obj g p => exact ⟨Nat.le_trans h.base this.1, this.2⟩
      | mark g => exact ⟨Nat.le_trans h.base this.1, this.2⟩
    · exact hg.ok r hr
  · refine List.pairwise_append.2 ⟨hb.dj, hg.dj, ?_⟩
    intro a ha b hb'
    cases hk : a.blk with
    | none => exact .inl rfl
    | some k =>
      right
      intro e
      have h1 := (hb.ok a ha).lt hk
      have h2 := (h.ok b hb').lt e.symm
      omega
theorem Hp.sub (h : Hp B w0 w L) {L' : List Res} (hs : L'.Sublist L) : Hp B w0 w L' :=
  ⟨h.below, h.base, fun r hr => h.ok r (hs.subset hr), h.dj.sublist hs⟩
theorem Hp.perm (h : Hp B w0 w L) {L' : List Res} (hs : L'.Perm L) : Hp B w0 w L' :=
  ⟨h.below, h.base, fun r hr => h.ok r (hs.subset hr), hs.symm.pairwise h.dj (fun {a b} hab => by
    rcases hab with h1 | h1
    · by_cases hb : b.blk = none
      · exact .inl hb
      · right; rw [h1]; exact hb
    · right; exact fun e => h1 e.symm)⟩
theorem Hp.swap {a b : Res} (h : Hp B w0 w (a :: b :: L)) : Hp B w0 w (b :: a :: L) := h.perm (List.Perm.swap a b L)
theorem Hp.drop1 {a : Res} (h : Hp B w0 w (a :: L)) : Hp B w0 w L := h.sub (List.sublist_cons_self a L)
theorem Hp.none (h : Hp B w0 w L) : Hp B w0 w [] := h.sub (List.nil_sublist L)
theorem Hp.alloc0 (h : Hp B w0 w L) (o : Obj) : Hp B w0 (w.alloc o) L :=
  h.grow ((Below.refl _ _).alloc (Nat.le_refl _) o)
theorem Hp.cons (h : Hp B w0 w L) {r : Res} (hr : r.ok w B) (hd : ∀ s ∈ L, r.blk = .none ∨ r.blk ≠ s.blk) : Hp B w0 w (r :: L) :=
  ⟨h.below, h.base, by
    intro s hs
    rcases List.mem_cons.1 hs with rfl | hs
    · exact hr
    · exact h.ok s hs, List.pairwise_cons.2 ⟨hd, h.dj⟩⟩
theorem Hp.fresh (h : Hp B w0 w L) {r : Res} (hr : r.ok w' B) (hb : Below w.heap.size w w') (hlt : ∀ k, r.blk = some k → w.heap.size ≤ k) : Hp B w0 w' (r :: L) := by
  refine (h.grow hb).cons hr fun s hs => ?_
  cases hk : r.blk with
  | none => exact .inl rfl
  | some k =>
    right
    intro e
    have := (h.ok s hs).lt e.symm
    have := hlt k hk
    omega
theorem Hp.box (h : Hp B w0 w L) (e : TypeId) (cs : Array Value) {g : Nat} (hg : w.heap.size = g := by first | rfl | simp) : Hp B w0 (w.alloc (.cells cs e)) (.box e g cs.toList :: L) := by
  subst hg
  exact h.fresh ⟨h.base, (heap_alloc_new w _).trans (by simp)⟩ ((Below.refl _ _).alloc (Nat.le_refl _) _) (fun k hk => by simp [Res.blk] at hk;omega)
theorem Hp.lit (h : Hp B w0 w L) (e : TypeId) (sz : Nat) (cs : Array Value) (n : Nat) (hm : n ≤ maxLen) (hs : cs.size = n * sz) {g : Nat} (hg : w.heap.size = g := by first | rfl | simp) :
    Hp B w0 (w.alloc (.cells cs e)) (.row e sz (.slice (some ⟨g, 0, .none⟩) n n) n cs.toList :: L) := by
  subst hg
  exact h.fresh (World.ownsRow_lit w cs n h.base hm hs) ((Below.refl _ _).alloc (Nat.le_refl _) _) (fun k hk => by simp [Res.blk, Value.ownBlock] at hk;omega)
theorem Hp.nil (h : Hp B w0 w L) (e : TypeId) (sz : Nat) : Hp B w0 w (.row e sz (.slice .none 0 0) 0 [] :: L) :=
  h.cons (World.ownsRow_nil w B e sz) fun _ _ => .inl rfl
theorem Hp.turn (h : Hp B w0 w L) {i : Nat} {r r' : Res} (hi : L[i]? = some r) (hg : w.grownBy w' r.blk) (hr : r'.ok w' B) (hb : ∀ k, r'.blk = some k → r.blk = some k ∨ w.heap.size ≤ k) : Hp B w0 w' (L.set i r') := by
  have hbelow : Below B w w' := ⟨hg.os, hg.tape, hg.output, hg.size, fun k hk => hg.block k (Nat.lt_of_lt_of_le hk h.base) (fun e => by
    have := (h.ok r (List.mem_of_getElem? hi)).lt e.symm;omega)⟩
  have hlt : i < L.length := (List.getElem?_eq_some_iff.1 hi).1
  have hir : L[i] = r := (List.getElem?_eq_some_iff.1 hi).2
  have hd : ∀ j, (hj : j < L.length) → j ≠ i → (r.blk = .none ∨ r.blk ≠ L[j].blk) ∧ (L[j].blk = .none ∨ L[j].blk ≠ r.blk) := by
    intro j hj hne
    have sym : ∀ {a b : Res}, (a.blk = .none ∨ a.blk ≠ b.blk) → (b.blk = .none ∨ b.blk ≠ a.blk) := by
      intro a b hab
      by_cases hb : b.blk = .none
      · exact .inl hb
      · rcases hab with h1 | h1
        · right; rw [h1]; exact hb
        · right; exact fun e => h1 e.symm
    have hp := List.pairwise_iff_getElem.1 h.dj
    rcases Nat.lt_or_ge i j with hij | hij
    · have := hp i j hlt hj hij
      rw [hir] at this
      exact ⟨this, sym this⟩
    · have := hp j i hj hlt (by omega)
      rw [hir] at this
      exact ⟨sym this, this⟩
  have hnew : ∀ j, (hj : j < L.length) → j ≠ i → r'.blk = .none ∨ r'.blk ≠ L[j].blk := by
    intro j hj hne
    cases hk : r'.blk with
    | none => exact .inl rfl
    | some k =>
      right
      intro e
      rcases hb k hk with h1 | h1
      · have := (hd j hj hne).1
        rw [h1, ← e] at this
        simp at this
      · have := (h.ok L[j] (List.getElem_mem hj)).lt e.symm
        omega
  refine ⟨h.below.trans hbelow, Nat.le_trans h.base hg.size, ?_, ?_⟩
  · intro s hs
    obtain ⟨j, hj, rfl⟩ := List.getElem_of_mem hs
    rw [List.length_set] at hj
    rw [List.getElem_set]
    split
    · exact hr
    · rename_i hne
      refine (h.ok L[j] (List.getElem_mem hj)).of_block fun k hk => hg.block k ((h.ok L[j] (List.getElem_mem hj)).lt hk).2 ?_
      rcases (hd j hj (fun e => hne e.symm)).2 with h1 | h1
      · rw [hk] at h1; cases h1
      · rw [← hk]; exact h1
  · refine List.pairwise_iff_getElem.2 fun a b ha hb' hab => ?_
    rw [List.length_set] at ha hb'
    rw [List.getElem_set, List.getElem_set]
    have hp := List.pairwise_iff_getElem.1 h.dj a b ha hb' hab
    split
    · rw [if_neg (by omega)]
      exact hnew b hb' (by omega)
    · split
      · have := hnew a ha (by omega)
        by_cases hn : L[a].blk = .none
        · exact .inl hn
        · rcases this with h1 | h1
          · right; rw [h1]; exact hn
          · right; exact fun e => h1 e.symm
      · exact hp
theorem Hp.setRow (h : Hp B w0 w L) {i : Nat} {e : TypeId} {sz g n cap : Nat} {xs : List Value} (hi : L[i]? = some (.row e sz (.slice (some ⟨g, 0, .none⟩) n cap) n xs)) (k : Nat) (u : Value) :
    Hp B w0 (w.setCell ⟨g, k, .none⟩ u) (L.set i (.row e sz (.slice (some ⟨g, 0, .none⟩) n cap) n (xs.set k u))) := by
  have ho : w.ownsRow B e sz (.slice (some ⟨g, 0, .none⟩) n cap) n xs := h.ok _ (List.mem_of_getElem? hi)
  have hs := ho.stored k u
  exact h.turn hi hs.2 hs.1 (fun j hj => .inl hj)
theorem Hp.setBox (h : Hp B w0 w L) {i : Nat} {e : TypeId} {g : Nat} {cs : List Value} (hi : L[i]? = some (.box e g cs)) (k : Nat) (u : Value) :
    Hp B w0 (w.setCell ⟨g, k, .none⟩ u) (L.set i (.box e g (cs.set k u))) := by
  have ho : B ≤ g ∧ w.heap[g]? = some (.cells cs.toArray e (0, 0)) := h.ok _ (List.mem_of_getElem? hi)
  refine h.turn hi (r' := .box e g (cs.set k u)) ⟨rfl, rfl, rfl, by simp, fun j _ hj => heap_setCell_other w ⟨g, k, .none⟩ j u (fun e => hj (by simp [Res.blk, e]))⟩ ⟨ho.1, ?_⟩ (fun j hj => .inl hj)
  rw [heap_setCell_same w g k _ e u ho.2]
  simp
theorem Hp.rowAt (h : Hp B w0 w L) (i : Nat) {e : TypeId} {sz g n cap : Nat} {xs : List Value} (hi : L[i]? = some (.row e sz (.slice (some ⟨g, 0, .none⟩) n cap) n xs)) :
    (∀ k, k < n * sz → w.cell? ⟨g, k, .none⟩ = xs[k]?) ∧ (∀ k, w.frozen? ⟨g, k, .none⟩ = false) ∧ B ≤ g ∧ g < w.heap.size := by
  have ho : w.ownsRow B e sz (.slice (some ⟨g, 0, .none⟩) n cap) n xs := h.ok _ (List.mem_of_getElem? hi)
  have hl := ho.lt g rfl
  exact ⟨fun k hk => ho.cellAt k hk, fun k => ho.frozenAt k, hl.1, hl.2⟩
theorem Hp.boxAt (h : Hp B w0 w L) (i : Nat) {e : TypeId} {g : Nat} {cs : List Value} (hi : L[i]? = some (.box e g cs)) :
    (∀ k, w.cell? ⟨g, k, .none⟩ = cs[k]?) ∧ (∀ k, w.frozen? ⟨g, k, .none⟩ = false) ∧ B ≤ g ∧ g < w.heap.size := by
  have ho : B ≤ g ∧ w.heap[g]? = some (.cells cs.toArray e (0, 0)) := h.ok _ (List.mem_of_getElem? hi)
  refine ⟨fun k => ?_, fun k => frozen_of_row w g k _ e ho.2, ho.1, (Array.getElem?_eq_some_iff.1 ho.2).1⟩
  rw [cell_of_row w g k _ e (0, 0) ho.2]
  simp
theorem Hp.rowForm (h : Hp B w0 w L) (i : Nat) {e : TypeId} {sz n : Nat} {v : Value} {xs : List Value} (hi : L[i]? = some (.row e sz v n xs)) (hn : 0 < n) :
    ∃ g cap, v = .slice (some ⟨g, 0, .none⟩) n cap := by
  have ho : w.ownsRow B e sz v n xs := h.ok _ (List.mem_of_getElem? hi)
  rcases ho.2 with ⟨_, h0⟩ | ⟨g, cap, cur, hv, _⟩
  · omega
  · exact ⟨g, cap, hv⟩
theorem Hp.rowShape (h : Hp B w0 w L) (i : Nat) {e : TypeId} {sz n : Nat} {v : Value} {xs : List Value} (hi : L[i]? = some (.row e sz v n xs)) :
    ∃ a cap, v = .slice a n cap ∧ (0 < n → ∃ g, a = some ⟨g, 0, .none⟩) ∧ n ≤ 9223372036854775807 := by
  have ho : w.ownsRow B e sz v n xs := h.ok _ (List.mem_of_getElem? hi)
  rcases ho.2 with ⟨hv, h0⟩ | ⟨g, cap, cur, hv, _, _, hnc, hcm, _⟩
  · subst h0
    exact ⟨_, _, hv, fun h => absurd h (by omega), by omega⟩
  · exact ⟨_, cap, hv, fun _ => ⟨g, rfl⟩, by unfold maxLen at hcm;omega⟩
theorem Hp.sl (h : Hp B w0 w L) (i : Nat) {e : TypeId} {sz n : Nat} {v : Value} {xs : List Value} (hi : L[i]? = some (.row e sz v n xs)) (hn : n ≤ 140737488355328) {f : Nat → Value} (hf : ∀ j, j < n * sz → xs[j]? = some (f j)) : Sl w v sz n f := by
  have ho : w.ownsRow B e sz v n xs := h.ok _ (List.mem_of_getElem? hi)
  refine ⟨hn, ?_, ?_⟩
  case refine_2 =>
    intro a m c hv'
    rcases ho.2 with ⟨hv, h0⟩ | ⟨g, cap, cur, hv, _, _, hnc, _⟩
    · rw [hv] at hv'
      simp only [Value.slice.injEq] at hv'
      omega
    · rw [hv] at hv'
      simp only [Value.slice.injEq] at hv'
      omega
  rcases ho.2 with ⟨hv, h0⟩ | ⟨g, cap, cur, rfl, _⟩
  · exact ⟨_, _, by rw [hv, h0], .inl h0⟩
  · exact ⟨_, _, rfl, .inr ⟨g, 0, rfl, fun j hj => by rw [Nat.zero_add, ho.cellAt j hj, hf j hj]⟩⟩
theorem Sl.below {v : Value} {sz n : Nat} {f : Nat → Value} (h : Sl w v sz n f) (hb : Below w.heap.size w w') : Sl w' v sz n f := by
  refine ⟨h.len, ?_, h.room⟩
  obtain ⟨a, cap, hv, hc⟩ := h.out
  refine ⟨a, cap, hv, ?_⟩
  rcases hc with h0 | ⟨b, off, ha, hc⟩
  · exact .inl h0
  · exact .inr ⟨b, off, ha, fun j hj => by
      have h1 := hc j hj
      rw [hb.cell (p := ⟨b, off + j, .none⟩) (World.block_lt_of_cell? w _ h1)]
      exact h1⟩
structure SlTy (P : Program) (t e : TypeId) (sz bytes : Nat) (z : Value) : Prop where
  und : P.underlying t = some (.slice e)
  inf : (P.info? e).map (fun i => (i.zero, i.size, i.bytes)) = some (some z, sz, bytes)
  zs : z.cells.size = sz
  pos : 0 < sz
theorem wpList_append_hp {P : Program} {ops : Array Oper} {rest : List Oper} {o : Oper} {a : Act} {Q : Exit → Act → World → Prop} (hgd : o.guard = .none) (s x : Operand) (t : TypeId)
    (ho : o.op = .call { callee := .builtin .append, args := #[s, x], argTypes := #[t, t] }) {e : TypeId} {sz bytes : Nat} {z : Value} (T : SlTy P t e sz bytes z)
    (h : Hp B w0 w L) (i : Nat) {v : Value} {n : Nat} {xs : List Value} (hi : L[i]? = some (.row e sz v n xs)) (hs : a.eval s = v)
    (ad : Addr) (m c : Nat) (news : List Value) (hx : a.eval x = .slice (some ad) m c) (hl : news.length = m * sz) (hnews : ∀ j u, news[j]? = some u → w.cell? (ad.add j) = some u) (h1 : ∀ u ∈ news, u.oneCell' = true)
    (hbytes : (n + m) * bytes ≤ 140737488355328) (h63 : n + m ≤ 9223372036854775807)
    (hk : ∀ v' w', Hp B w0 w' (L.set i (.row e sz v' (n + m) (xs ++ news))) → (0 < m → ∃ g cap, v' = .slice (some ⟨g, 0, .none⟩) (n + m) cap) → wpList P ops Q rest (a.put o.dst v') w') :
    wpList P ops Q (o :: rest) a w := by
  have hown : w.ownsRow B e sz v n xs := h.ok _ (List.mem_of_getElem? hi)
  obtain ⟨i0, hi0, hz0, hz1, hz2⟩ := info_parts T.inf
  refine wpList_append_own_at w hgd s x t ho B e i0 z sz bytes T.und hi0 hz0 hz1 hz2 T.zs T.pos v n xs hs hown ad m c news hx hl hnews h1 (by unfold maxLen;omega) hbytes h.base ?_
  intro v' w' hown' hg hnil hat
  have hp := h.turn hi hg (r' := .row e sz v' (n + m) (xs ++ news)) hown' (fun k hk => by
    rcases hat with h1 | h1
    · left; show v.ownBlock = some k; rw [← h1]; exact hk
    · right
      have : some k = some w.heap.size := by rw [← h1]; exact hk.symm
      simp only [Option.some.injEq] at this
      omega)
  refine hk v' w' hp fun hm => ?_
  rcases hown'.2 with ⟨_, h0⟩ | ⟨g, cap, cur, hv, _⟩
  · omega
  · exact ⟨g, cap, hv⟩
theorem wpList_append1_hp {P : Program} {ops : Array Oper} {rest : List Oper} {o : Oper} {a : Act} {Q : Exit → Act → World → Prop} (hgd : o.guard = .none) (s x : Operand) (t : TypeId)
    (ho : o.op = .call { callee := .builtin .append, args := #[s, x], argTypes := #[t, t] }) {e : TypeId} {bytes : Nat} {z : Value} (T : SlTy P t e 1 bytes z)
    (h : Hp B w0 w L) (i : Nat) {v : Value} {n : Nat} {xs : List Value} (hi : L[i]? = some (.row e 1 v n xs)) (hs : a.eval s = v)
    (g c : Nat) (y : Value) (hx : a.eval x = .slice (some ⟨g, 0, .none⟩) 1 c) (hnews : w.cell? ⟨g, 0, .none⟩ = some y) (h1 : y.oneCell' = true)
    (hbytes : (n + 1) * bytes ≤ 140737488355328) (h63 : n + 1 ≤ 9223372036854775807)
    (hk : ∀ g' cap w', Hp B w0 w' (L.set i (.row e 1 (.slice (some ⟨g', 0, .none⟩) (n + 1) cap) (n + 1) (xs ++ [y]))) → wpList P ops Q rest (a.put o.dst (.slice (some ⟨g', 0, .none⟩) (n + 1) cap)) w') :
    wpList P ops Q (o :: rest) a w := by
  refine wpList_append_hp hgd s x t ho T h i hi hs ⟨g, 0, .none⟩ 1 c [y] hx rfl ?_ (by simpa using h1) hbytes h63 ?_
  · intro j u hj
    cases j with
    | zero => simp at hj; subst hj; simpa [Addr.add] using hnews
    | succ j => simp at hj
  · intro v' w' hp hf
    obtain ⟨g', cap, rfl⟩ := hf (by omega)
    exact hk g' cap w' hp
theorem wpList_append1_new {P : Program} {ops : Array Oper} {rest : List Oper} {o : Oper} {a : Act} {Q : Exit → Act → World → Prop} (hgd : o.guard = .none) (s x : Operand) (t : TypeId)
    (ho : o.op = .call { callee := .builtin .append, args := #[s, x], argTypes := #[t, t] }) {e e' : TypeId} {bytes : Nat} {z : Value} (T : SlTy P t e 1 bytes z)
    (h : Hp B w0 w L) (i : Nat) {v : Value} {n : Nat} {xs : List Value} (hi : L[i]? = some (.row e 1 v n xs)) (hs : a.eval s = v)
    {c : Nat} {y : Value} (hx : a.eval x = .slice (some ⟨w.heap.size, 0, .none⟩) 1 c) (h1 : y.oneCell' = true)
    (hbytes : (n + 1) * bytes ≤ 140737488355328) (h63 : n + 1 ≤ 9223372036854775807)
    (hk : ∀ g' cap w', Hp B w0 w' (L.set i (.row e 1 (.slice (some ⟨g', 0, .none⟩) (n + 1) cap) (n + 1) (xs ++ [y]))) → wpList P ops Q rest (a.put o.dst (.slice (some ⟨g', 0, .none⟩) (n + 1) cap)) w') :
    wpList P ops Q (o :: rest) a (w.alloc (.cells #[y] e')) :=
  wpList_append1_hp hgd s x t ho T (h.alloc0 _) i hi hs w.heap.size c y hx (by simp) h1 hbytes h63 hk
end Go.Proofs.YthnlnffmmioapaaGreatDoor
namespace Go.Proofs.YthnlnffmmioapaaGreatDoor
open Go.RowKit
theorem beq_ne {i d : Nat} (h : i ≠ d) : Nat.beq i d = false := by
  cases hb : Nat.beq i d with
  | false => rfl
  | true => exact absurd (Nat.eq_of_beq_eq_true hb) h
def memN (i : Nat) : List Nat → Bool
  | [] => false
  | w :: ws => cond (Nat.beq i w) true (memN i ws)
theorem memN_iff (i : Nat) (W : List Nat) : memN i W = true ↔ i ∈ W := by
  induction W with
  | nil => simp [memN]
  | cons w W ih =>
    simp only [memN, List.mem_cons]
    by_cases h : i = w
    · subst h; simp
    · have : Nat.beq i w = false := beq_ne h
      rw [this]; simp [ih, h]
section
variable (P : Program) (ops : Array Oper)
def wpPure (C : World → Prop) (Q : Act → Prop) : List Oper → Act → Prop
  | [], a => Q a
  | o :: rest, a => if Region.wanted o (yielded ops a.tmps) then ∃ v, (∀ w, C w → (execOp a.eval o).run P w = .ok (.value v) w) ∧ wpPure C Q rest (a.put o.dst v) else wpPure C Q rest (a.put o.dst undef)
def wpListC (C : World → Prop) (Q : Exit → Act → World → Prop) : List Oper → Act → World → Prop
  | [], a, w => C w ∧ Q .normal a w
  | o :: rest, a, w => C w ∧ if Region.wanted o (yielded ops a.tmps) then o.wp P a w (wpListC C Q rest) Q else wpListC C Q rest (a.put o.dst undef) w
def anyC (C : Array Bool → World → Prop) (Q : Exit → Act → World → Prop) : Nat → Array Bool → Act → World → Prop
  | 0, listed, a, w => C listed w ∧ Region.ready .any ops listed = [] ∧ Q .normal a w
  | f + 1, listed, a, w => C listed w ∧ (Region.ready .any ops listed = [] → Q .normal a w) ∧ ∀ i ∈ Region.ready .any ops listed, wpOp P ops Q i (anyC C Q f (listed.setIfInBounds i true)) a w
def waiters (i : Nat) : List Nat :=
  (List.range ops.size).foldl (fun W j => match ops[j]? with
    | some oj => if oj.after.any (fun e => Region.binds .any e && (Nat.beq e.on i || memN e.on W)) then j :: W else W
    | none => W) []
def started (T : List Nat) (listed : Array Bool) : Bool := T.any fun t => listed.getD t false
def stepB (T : List Nat) (listed : Array Bool) (i : Nat) : Bool :=
  (Region.ready .any ops listed).contains i && Region.free .any ops listed i && !memN i T && (waiters ops i).all fun j => !listed.getD j true
def seqLB : List Nat → Array Bool → Bool
  | [], listed => (Region.ready .any ops listed).isEmpty
  | t :: T, listed => decide (Region.ready .any ops listed = [t]) && seqLB T (listed.setIfInBounds t true)
def chainLB (T : List Nat) : List (Nat × Bool) → Array Bool → Bool
  | [], listed => seqLB ops T listed
  | (i, t1) :: E, listed => stepB ops T listed i && (!t1 || T.all fun t => memN t (waiters ops i)) && chainLB T E (listed.setIfInBounds i true)
def wpEarly (wf : World) (Cw : World → Prop) (Q : Act → Prop) : List (Nat × Bool) → Act → Prop
  | [], a => Q a
  | (i, t1) :: E, a => ∃ oi, ops[i]? = some oi ∧ if Region.wanted oi (yielded ops a.tmps) then ∃ v, (∀ w, (if t1 = true then w = wf else Cw w) → (execOp a.eval oi).run P w = .ok (.value v) w) ∧ wpEarly wf Cw Q E (a.put oi.dst v) else wpEarly wf Cw Q E (a.put oi.dst undef)
end
section
variable {P : Program} {ops : Array Oper} {Q : Exit → Act → World → Prop} {C : Array Bool → World → Prop}
theorem anyC_any : ∀ (f : Nat) (listed : Array Bool) (a : Act) (w : World), anyC P ops C Q f listed a w → wpAny P .any ops Q f listed a w
  | 0, _, _, _, h => ⟨h.2.1, h.2.2⟩
  | f + 1, _, _, _, h => ⟨h.2.1, fun i hi => wpOp_mono (fun a w h => anyC_any f _ a w h) (h.2.2 i hi)⟩
theorem anyC.cls {f : Nat} {listed : Array Bool} {a : Act} {w : World} (h : anyC P ops C Q f listed a w) : C listed w := by
  cases f with
  | zero => exact h.1
  | succ f => exact h.1
theorem waiters_spec (i j : Nat) (h : j ∈ waiters ops i) : ∃ oj, ops[j]? = some oj ∧ ∃ e ∈ oj.after, Region.binds .any e = true ∧ (e.on = i ∨ e.on ∈ waiters ops i) := by
  have key : ∀ (l : List Nat) (W : List Nat), (∀ j ∈ W, ∃ oj, ops[j]? = some oj ∧ ∃ e ∈ oj.after, Region.binds .any e = true ∧ (e.on = i ∨ e.on ∈ W)) →
      ∀ j ∈ l.foldl (fun W j => match ops[j]? with
        | some oj => if oj.after.any (fun e => Region.binds .any e && (Nat.beq e.on i || memN e.on W)) then j :: W else W
        | none => W) W, ∃ oj, ops[j]? = some oj ∧ ∃ e ∈ oj.after, Region.binds .any e = true ∧ (e.on = i ∨ e.on ∈ l.foldl (fun W j => match ops[j]? with
        | some oj => if oj.after.any (fun e => Region.binds .any e && (Nat.beq e.on i || memN e.on W)) then j :: W else W
        | none => W) W) := by
    intro l
    induction l with
    | nil => intro W h; exact h
    | cons k l ih =>
      intro W hW
      rw [List.foldl_cons]
      refine ih _ ?_
      intro j hj
      cases hk : ops[k]? with
      | none => rw [hk] at hj; simpa only [hk] using hW j hj
      | some ok =>
        rw [hk] at hj
        simp only at hj ⊢
        by_cases hc : ok.after.any (fun e => Region.binds .any e && (Nat.beq e.on i || memN e.on W)) = true
        · rw [if_pos hc] at hj ⊢
          rcases List.mem_cons.1 hj with rfl | hj
          · obtain ⟨e, he, hb⟩ := Array.any_eq_true'.1 hc
            simp only [Bool.and_eq_true, Bool.or_eq_true] at hb
            refine ⟨ok, hk, e, he, hb.1, ?_⟩
            rcases hb.2 with h1 | h1
            · exact .inl (Nat.eq_of_beq_eq_true h1)
            · exact .inr (List.mem_cons_of_mem _ ((memN_iff _ _).1 h1))
          · obtain ⟨oj, h1, e, h2, h3, h4⟩ := hW j hj
            exact ⟨oj, h1, e, h2, h3, h4.imp id (List.mem_cons_of_mem _)⟩
        · rw [if_neg hc] at hj ⊢
          exact hW j hj
  exact key _ [] (by simp) j h
theorem wpOp_putY {j : Nat} {oi oj : Oper} {v : Value} (hj : ops[j]? = some oj) (hap : oi.apart ops oj = true) (hsj : ∀ cs b, oj.op ≠ .select cs b)
    (hQ : ∀ c a w, Q (.panic c) (a.put oi.dst v) w → Q (.panic c) a w) {K : Act → World → Prop} {a : Act} {w : World} {Y : Act → Prop}
    (keep : ∀ a, Y a → ∀ u, Y (a.put oj.dst u)) (keepD : ∀ a d, Y a → Y { a with defers := d :: a.defers })
    (hy : Y a) (h : wpOp P ops Q j K (a.put oi.dst v) w) : wpOp P ops Q j (fun a' w' => Y a' ∧ K (a'.put oi.dst v) w') a w := by
  obtain ⟨h1, h2, h3⟩ := Oper.apart_spec hap
  unfold wpOp at *
  simp only [hj] at *
  rw [wanted_put oj a oi.dst v h1] at h
  split
  · rename_i hw
    simp only [hw, if_true] at h
    rcases h with h | ⟨hasks, hlets⟩
    case inr => exact .inr ⟨by unfold Oper.asks at *; rw [execOp_put oj hsj a oi.dst v h1] at hasks; exact hasks, hlets⟩
    refine .inl ?_
    unfold Oper.wp at *
    rw [execOp_put oj hsj a oi.dst v h1] at h
    generalize (execOp a.eval oj).run P w = r at *
    cases r with
    | ok n w' =>
      cases n <;> simp only [Oper.upon] at h ⊢
      case value u => exact ⟨keep a hy u, by rw [← Act.put_comm a v u h2]; exact h⟩
      case skip => exact ⟨keep a hy _, by rw [← Act.put_comm a v undef h2]; exact h⟩
      case defer d =>
        refine ⟨keep _ (keepD a d hy) _, ?_⟩
        rw [← Act.put_comm _ v undef h2, ← Act.put_defers]
        exact h
      case enter f args =>
        refine Calls.mono h fun e w'' he => ?_
        cases e with
        | returned u => exact ⟨keep a hy u, by rw [← Act.put_comm a v u h2]; exact he⟩
        | panicked c => exact hQ _ _ _ he
        | outgrown => exact he
      case row row args => exact Rows.mono h fun u w'' he => ⟨keep a hy u, by rw [← Act.put_comm a v u h2]; exact he⟩
    | halt x w' =>
      cases x <;> simp only [Oper.upon] at h ⊢
      case panic u => exact hQ _ _ _ h
  · rename_i hw
    simp only [hw] at h
    exact ⟨keep a hy _, by rw [← Act.put_comm a v undef h2]; exact h⟩
theorem anyC_first {i : Nat} {oi : Oper} {v : Value} (hi : ops[i]? = some oi) (hsel : ∀ (j : Nat) (o : Oper) cs b, ops[j]? = some o → o.op ≠ .select cs b)
    (hQ : ∀ c a w, ¬ Q (.panic c) a w) (hC : ∀ listed w, (listed.getD i true = false) → C (listed.setIfInBounds i true) w → C listed w) :
    ∀ (fuel : Nat) (listed : Array Bool) (a : Act) (w : World),
      (∀ j oj, ops[j]? = some oj → j ≠ i → listed.getD j true = false → (∀ e ∈ oj.after, Region.binds .any e = true → e.on ≠ i) → oi.apart ops oj = true) →
      i ∈ Region.ready .any ops listed → (∀ j ∈ waiters ops i, listed.getD j true = false) →
      ((Region.wanted oi (yielded ops a.tmps) = true ∧ ∀ (listed' : Array Bool) (w' : World), listed'.getD i true = false → (∀ j ∈ waiters ops i, listed'.getD j true = false) → C listed' w' → (execOp a.eval oi).run P w' = .ok (.value v) w') ∨
        (Region.wanted oi (yielded ops a.tmps) = false ∧ v = undef)) →
      anyC P ops C Q fuel (listed.setIfInBounds i true) (a.put oi.dst v) w → anyC P ops C Q (fuel + 1) listed a w := by
  intro fuel
  have now : ∀ (f : Nat) (listed : Array Bool) (a : Act) (w : World), i ∈ Region.ready .any ops listed → (∀ j ∈ waiters ops i, listed.getD j true = false) → C listed w →
      ((Region.wanted oi (yielded ops a.tmps) = true ∧ ∀ (listed' : Array Bool) (w' : World), listed'.getD i true = false → (∀ j ∈ waiters ops i, listed'.getD j true = false) → C listed' w' → (execOp a.eval oi).run P w' = .ok (.value v) w') ∨
        (Region.wanted oi (yielded ops a.tmps) = false ∧ v = undef)) →
      anyC P ops C Q f (listed.setIfInBounds i true) (a.put oi.dst v) w → wpOp P ops Q i (anyC P ops C Q f (listed.setIfInBounds i true)) a w := by
    intro f listed a w hr hW hc hy H
    unfold wpOp
    simp only [hi]
    rcases hy with ⟨hw, hy⟩ | ⟨hw, rfl⟩
    · rw [if_pos hw]
      left
      unfold Oper.wp
      rw [hy listed w (mem_ready.1 hr).1 hW hc, Oper.upon_value]
      exact H
    · rw [if_neg (by rw [hw]; simp)]
      exact H
  induction fuel with
  | zero =>
    intro listed a w hfree hr hW hy H
    have hc := hC listed w (mem_ready.1 hr).1 H.cls
    refine ⟨hc, fun h => (by rw [h] at hr; cases hr), fun j hj => ?_⟩
    by_cases hji : j = i
    · subst hji; exact now 0 listed a w hr hW hc hy H
    · have := ready_mono hj hji
      rw [H.2.1] at this
      cases this
  | succ fuel ih =>
    intro listed a w hfree hr hW hy H
    have hc := hC listed w (mem_ready.1 hr).1 H.cls
    refine ⟨hc, fun h => (by rw [h] at hr; cases hr), fun j hj => ?_⟩
    by_cases hji : j = i
    · subst hji; exact now (fuel + 1) listed a w hr hW hc hy H
    · have h1 := H.2.2 j (ready_mono hj hji)
      obtain ⟨hjun, oj, hoj, hall⟩ := mem_ready.1 hj
      have hun : ∀ k, listed.getD k true = false → listed.getD k false = true → False := fun k h0 h1 => by
        rcases Nat.lt_or_ge k listed.size with h' | h'
        · simp [h'] at h0 h1; rw [h0] at h1; cases h1
        · simp [Array.getElem?_eq_none h'] at h1
      have hnot : ∀ e ∈ oj.after, Region.binds .any e = true → e.on ≠ i := fun e he hb heq => by
        have h1 := hall e he hb
        rw [heq] at h1
        exact hun i (mem_ready.1 hr).1 h1
      have hjW : j ∉ waiters ops i := fun hjW => by
        obtain ⟨oj', hoj', e, he, hb, hon⟩ := waiters_spec i j hjW
        obtain rfl : oj' = oj := Option.some.inj (hoj'.symm.trans hoj)
        have h1 := hall e he hb
        rcases hon with hon | hon
        · exact hnot e he hb hon
        · exact hun e.on (hW e.on hon) h1
      obtain ⟨p1, p2, p3⟩ := Oper.apart_spec (hfree j oj hoj hji hjun hnot)
      have keep : ∀ (a : Act), ((Region.wanted oi (yielded ops a.tmps) = true ∧ ∀ (listed' : Array Bool) (w' : World), listed'.getD i true = false → (∀ j ∈ waiters ops i, listed'.getD j true = false) → C listed' w' → (execOp a.eval oi).run P w' = .ok (.value v) w') ∨
          (Region.wanted oi (yielded ops a.tmps) = false ∧ v = undef)) → ∀ u, ((Region.wanted oi (yielded ops (a.put oj.dst u).tmps) = true ∧ ∀ (listed' : Array Bool) (w' : World), listed'.getD i true = false → (∀ j ∈ waiters ops i, listed'.getD j true = false) → C listed' w' → (execOp (a.put oj.dst u).eval oi).run P w' = .ok (.value v) w') ∨
          (Region.wanted oi (yielded ops (a.put oj.dst u).tmps) = false ∧ v = undef)) := fun a hy u => by
        rw [execOp_put oi (fun cs b => hsel i oi cs b hi) a oj.dst u p3, wanted_put oi a oj.dst u p3]
        exact hy
      have h2 := wpOp_putY (Y := fun a => (Region.wanted oi (yielded ops a.tmps) = true ∧ ∀ (listed' : Array Bool) (w' : World), listed'.getD i true = false → (∀ j ∈ waiters ops i, listed'.getD j true = false) → C listed' w' → (execOp a.eval oi).run P w' = .ok (.value v) w') ∨
          (Region.wanted oi (yielded ops a.tmps) = false ∧ v = undef)) hoj (hfree j oj hoj hji hjun hnot) (fun cs b => hsel j oj cs b hoj) (fun c a w h => absurd h (hQ _ _ _)) keep (fun a d h => h) hy h1
      have hfree' : ∀ k ok, ops[k]? = some ok → k ≠ i → (listed.setIfInBounds j true).getD k true = false →
          (∀ e ∈ ok.after, Region.binds .any e = true → e.on ≠ i) → oi.apart ops ok = true := fun k ok hk hki hun' hno => by
        refine hfree k ok hk hki ?_ hno
        by_cases hjk : j = k
        · subst hjk; exact hjun
        · rw [getD_set_ne true hjk] at hun'; exact hun'
      have hW' : ∀ k ∈ waiters ops i, (listed.setIfInBounds j true).getD k true = false := fun k hk => by
        rw [getD_set_ne true (fun e => hjW (by rw [e]; exact hk))]
        exact hW k hk
      refine wpOp_mono (fun a' w' h3 => ih (listed.setIfInBounds j true) a' w' hfree' (ready_mono hr (Ne.symm hji)) hW' h3.1 ?_) h2
      rw [Array.setIfInBounds_comm _ _ hji]
      exact h3.2
theorem anyC_seq {wf : World} {Cw : World → Prop} (T0 : List Nat) : ∀ (T : List Nat) (lo : List Oper) (listed : Array Bool) (a : Act) (w : World), T.map (fun t => ops[t]?) = lo.map some → (∀ t ∈ T, t ∈ T0) → seqLB ops T listed = true → (started T0 listed = false → w = wf) → wpListC P ops Cw Q lo a w →
    anyC P ops (fun listed w => (started T0 listed = false → w = wf) ∧ Cw w) Q T.length listed a w
  | [], lo, listed, a, w, hm, _, hB, hs, h => by
    obtain rfl : lo = [] := by simpa using hm.symm
    exact ⟨⟨hs, h.1⟩, by simpa [seqLB] using hB, h.2⟩
  | t :: T, lo, listed, a, w, hm, hT, hB, hs, h => by
    cases lo with
    | nil => simp at hm
    | cons o lo =>
      simp only [List.map_cons, List.cons.injEq] at hm
      obtain ⟨h0, hm⟩ := hm
      simp only [seqLB, Bool.and_eq_true, decide_eq_true_eq] at hB
      obtain ⟨hcw, h⟩ := h
      refine ⟨⟨hs, hcw⟩, fun h1 => (by rw [hB.1] at h1; cases h1), fun i hi => ?_⟩
      rw [hB.1] at hi
      have hit : i = t := by simpa using hi
      subst hit
      have hstart : started T0 (listed.setIfInBounds i true) = true := by
        unfold started
        rw [List.any_eq_true]
        refine ⟨i, hT i (by simp), ?_⟩
        have hlt : i < listed.size := by
          have hr : i ∈ Region.ready .any ops listed := by rw [hB.1]; simp
          have h0 := (mem_ready.1 hr).1
          rcases Nat.lt_or_ge i listed.size with h' | h'
          · exact h'
          · simp [Array.getElem?_eq_none h'] at h0
        simp [hlt]
      unfold wpOp
      simp only [h0]
      have next : ∀ a w, wpListC P ops Cw Q lo a w → anyC P ops (fun listed w => (started T0 listed = false → w = wf) ∧ Cw w) Q T.length (listed.setIfInBounds i true) a w := fun a w h =>
        anyC_seq T0 T lo _ a w hm (fun t ht => hT t (by simp [ht])) hB.2 (fun h1 => by rw [hstart] at h1; cases h1) h
      split
      · rename_i hw
        rw [if_pos hw] at h
        exact .inl (Oper.wp_mono next h)
      · rename_i hw
        rw [if_neg hw] at h
        exact next _ _ h
theorem started_set {T : List Nat} {i : Nat} (h : memN i T = false) (listed : Array Bool) : started T (listed.setIfInBounds i true) = started T listed := by
  unfold started
  rw [Bool.eq_iff_iff]
  simp only [List.any_eq_true]
  have hne : ∀ t ∈ T, i ≠ t := fun t ht e => by
    subst e
    rw [(memN_iff _ _).2 ht] at h
    cases h
  constructor
  · rintro ⟨t, ht, hb⟩
    rw [getD_set_ne false (hne t ht)] at hb
    exact ⟨t, ht, hb⟩
  · rintro ⟨t, ht, hb⟩
    refine ⟨t, ht, ?_⟩
    rw [getD_set_ne false (hne t ht)]
    exact hb
theorem anyC_early {wf : World} {Cw : World → Prop} (T : List Nat) (lo : List Oper) (hm : T.map (fun t => ops[t]?) = lo.map some) (hcw : Cw wf) (hsel : Region.noSelect ops = true) (hQ : ∀ c a w, ¬ Q (.panic c) a w) :
    ∀ (E : List (Nat × Bool)) (listed : Array Bool) (a : Act), chainLB ops T E listed = true → started T listed = false → wpEarly P ops wf Cw (fun a' => wpListC P ops Cw Q lo a' wf) E a →
    anyC P ops (fun listed w => (started T listed = false → w = wf) ∧ Cw w) Q (E.length + T.length) listed a wf
  | [], listed, a, hB, hs, h => by
    rw [List.length_nil, Nat.zero_add]
    exact anyC_seq T T lo listed a wf hm (fun t ht => ht) hB (fun _ => rfl) h
  | (i, t1) :: E, listed, a, hB, hs, h => by
    simp only [chainLB, stepB, Bool.and_eq_true, Bool.not_eq_true'] at hB
    obtain ⟨⟨⟨⟨⟨hr, hf⟩, hiT⟩, hW⟩, ht1⟩, hB'⟩ := hB
    obtain ⟨oi, hi, h⟩ := h
    have hr' : i ∈ Region.ready .any ops listed := by simpa using hr
    have hW' : ∀ j ∈ waiters ops i, listed.getD j true = false := fun j hj => by
      have := List.all_eq_true.1 hW j hj
      simpa using this
    have hs' : started T (listed.setIfInBounds i true) = false := by rw [started_set hiT]; exact hs
    have hC : ∀ listed w, listed.getD i true = false → ((started T (listed.setIfInBounds i true) = false → w = wf) ∧ Cw w) → ((started T listed = false → w = wf) ∧ Cw w) := fun listed w _ h =>
      ⟨fun h1 => h.1 (by rw [started_set hiT]; exact h1), h.2⟩
    rw [show (List.length ((i, t1) :: E)) + T.length = (E.length + T.length) + 1 by simp;omega]
    by_cases hw : Region.wanted oi (yielded ops a.tmps) = true
    · rw [if_pos hw] at h
      obtain ⟨v, hv, hk⟩ := h
      refine anyC_first hi (Region.noSelect_spec hsel) hQ hC _ listed a wf (Region.free_spec hi hf) hr' hW' (.inl ⟨hw, fun listed' w' hiu hWu hc => ?_⟩) (anyC_early T lo hm hcw hsel hQ E _ _ hB' hs' hk)
      refine hv w' ?_
      cases t1 with
      | false => simpa using hc.2
      | true =>
        simp only [if_true]
        refine hc.1 ?_
        have hall : T.all (fun t => memN t (waiters ops i)) = true := by simpa using ht1
        unfold started
        rw [List.any_eq_false]
        intro t ht hb
        have h1 := hWu t ((memN_iff _ _).1 (List.all_eq_true.1 hall t ht))
        rcases Nat.lt_or_ge t listed'.size with h' | h'
        · simp [h'] at h1 hb; rw [h1] at hb; cases hb
        · simp [Array.getElem?_eq_none h'] at hb
    · rw [if_neg hw] at h
      exact anyC_first hi (Region.noSelect_spec hsel) hQ hC _ listed a wf (Region.free_spec hi hf) hr' hW' (.inr ⟨by simpa using hw, rfl⟩) (anyC_early T lo hm hcw hsel hQ E _ _ hB' hs' h)
theorem wpEarly_append {wf : World} {Cw : World → Prop} {Qa : Act → Prop} : ∀ (E1 E2 : List (Nat × Bool)) (a : Act), wpEarly P ops wf Cw (fun a' => wpEarly P ops wf Cw Qa E2 a') E1 a → wpEarly P ops wf Cw Qa (E1 ++ E2) a
  | [], E2, a, h => h
  | (i, t) :: E1, E2, a, h => by
    obtain ⟨oi, hi, h⟩ := h
    refine ⟨oi, hi, ?_⟩
    split
    · rename_i hw
      rw [if_pos hw] at h
      obtain ⟨v, h1, h2⟩ := h
      exact ⟨v, h1, wpEarly_append E1 E2 _ h2⟩
    · rename_i hw
      rw [if_neg hw] at h
      exact wpEarly_append E1 E2 _ h
theorem wpEarly_of_pure {wf : World} {Cw C : World → Prop} {Qa : Act → Prop} (t1 : Bool) (hC : ∀ w, (if t1 = true then w = wf else Cw w) → C w) : ∀ (A : List Nat) (lo : List Oper) (a : Act), A.map (fun t => ops[t]?) = lo.map some → wpPure P ops C Qa lo a → wpEarly P ops wf Cw Qa (A.map fun i => (i, t1)) a
  | [], lo, a, hm, h => by
    obtain rfl : lo = [] := by simpa using hm.symm
    exact h
  | i :: A, lo, a, hm, h => by
    cases lo with
    | nil => simp at hm
    | cons o lo =>
      simp only [List.map_cons, List.cons.injEq] at hm
      obtain ⟨h0, hm⟩ := hm
      refine ⟨o, h0, ?_⟩
      unfold wpPure at h
      split
      · rename_i hw
        rw [if_pos hw] at h
        obtain ⟨v, h1, h2⟩ := h
        exact ⟨v, fun w hw => h1 w (hC w hw), wpEarly_of_pure t1 hC A lo _ hm h2⟩
      · rename_i hw
        rw [if_neg hw] at h
        exact wpEarly_of_pure t1 hC A lo _ hm h
def mixB (ops : Array Oper) (A B A' T : List Nat) : Bool :=
  Region.noSelect ops && Nat.beq (A.length + B.length + A'.length + T.length) ops.size && chainLB ops T ((A.map fun i => (i, false)) ++ ((B.map fun i => (i, true)) ++ (A'.map fun i => (i, false)))) (Array.replicate ops.size false)
theorem wp_region_mix {id : Nat} {a : Act} {w : World} {C Cw : World → Prop} (A B A' T : List Nat) (la lb la' lt : List Oper) (hm : P.follows .mixedOrders = true) (hB : mixB ops A B A' T = true)
    (h1 : A.map (fun t => ops[t]?) = la.map some) (h2 : B.map (fun t => ops[t]?) = lb.map some) (h3 : A'.map (fun t => ops[t]?) = la'.map some) (h4 : T.map (fun t => ops[t]?) = lt.map some)
    (hQ : ∀ c a w, ¬ Q (.panic c) a w) (hc : C w.drew) (hcw : Cw w.drew)
    (h : wpPure P ops Cw (fun a1 => wpPure P ops C (fun a2 => wpPure P ops Cw (fun a3 => wpListC P ops Cw Q lt a3 w.drew) la' a2) lb a1) la a) : (Code.region id ops true).wp P Q a w := by
  simp only [mixB, Bool.and_eq_true] at hB
  obtain ⟨⟨hsel, hsz⟩, hch⟩ := hB
  have hsz' := Nat.eq_of_beq_eq_true hsz
  refine wp_region_any hm ?_
  have e := anyC_early (P := P) (ops := ops) (Q := Q) (wf := w.drew) (Cw := Cw) T lt h4 hcw hsel hQ _ (Array.replicate ops.size false) a hch (by
    unfold started
    rw [List.any_eq_false]
    intro t _
    simp only [Array.getD_eq_getD_getElem?, Array.getElem?_replicate]
    split <;> simp) (by
    refine wpEarly_append _ _ a (wpEarly_of_pure false (fun w hw => by simpa using hw) A la a h1 ?_)
    have mono : ∀ {C : World → Prop} {Q1 Q2 : Act → Prop} (hq : ∀ a, Q1 a → Q2 a) (l : List Oper) (a : Act), wpPure P ops C Q1 l a → wpPure P ops C Q2 l a := by
      intro C Q1 Q2 hq l
      induction l with
      | nil => intro a h; exact hq _ h
      | cons o l ih =>
        intro a h
        unfold wpPure at h ⊢
        split
        · rename_i hw
          rw [if_pos hw] at h
          obtain ⟨v, h1, h2⟩ := h
          exact ⟨v, h1, ih _ h2⟩
        · rename_i hw
          rw [if_neg hw] at h
          exact ih _ h
    refine mono (fun a1 h => wpEarly_append _ _ a1 (wpEarly_of_pure true (fun w' hw => by simp only [if_true] at hw; subst hw; exact hc) B lb a1 h2 (mono (fun a2 h => wpEarly_of_pure false (fun w hw => by simpa using hw) A' la' a2 h3 h) lb a1 h))) la a h)
  have hlen : (List.map (fun i => (i, false)) A ++ (List.map (fun i => (i, true)) B ++ List.map (fun i => (i, false)) A')).length + T.length = ops.size := by
    simp only [List.length_append, List.length_map];omega
  rw [hlen] at e
  exact anyC_any _ _ _ _ e
end
end Go.Proofs.YthnlnffmmioapaaGreatDoor
