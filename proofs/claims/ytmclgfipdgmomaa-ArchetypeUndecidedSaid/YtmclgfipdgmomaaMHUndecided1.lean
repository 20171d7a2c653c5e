/-
  Part 1 of the proof: Hp, Mix, Fw, Data, Fr. No statement of the seat is proved here.
-/
import Derived.Test.YtmclgfipdgmomaaRows
import Derived.WalkKit
import Derived.WalkSpells
import Derived.WalkLawsBesides
import Derived.Lib.Hide
import Derived.Maps.AppendAt
import Derived.Deep.RegionHeld3
import Derived.Deep.Quiet
import Derived.StillTail
namespace Go.Proofs.Ytmclgfipdgmomaa
open Go.RowKit
structure Sl (w : World) (v : Value) (sz n : Nat) (f : Nat → Value) : Prop where
  len : n ≤ 140737488355328
  out : ∃ a cap, v = .slice a n cap ∧ (n = 0 ∨ ∃ b off, a = some ⟨b, off, none⟩ ∧ ∀ j, j < n * sz → w.cell? ⟨b, off + j, none⟩ = some (f j))
  room : ∀ a m c, v = .slice a m c → m ≤ c
inductive Res where
  | row (e : TypeId) (sz : Nat) (v : Value) (n : Nat) (xs : List Value)
  | box (e : TypeId) (g : Nat) (cs : List Value)
  | obj (g : Nat) (p : Obj → Prop)
  | mark (g : Nat)
def Res.blk : Res → Option Nat
  | .row _ _ v _ _ => v.ownBlock
  | .box _ g _ => some g
  | .obj g _ => some g
  | .mark g => some g
def Res.ok (w : World) (B : Nat) : Res → Prop
  | .row e sz v n xs => w.ownsRow B e sz v n xs
  | .box e g cs => B ≤ g ∧ w.heap[g]? = some (.cells cs.toArray e (0, 0))
  | .obj g p => B ≤ g ∧ ∃ o, w.heap[g]? = some o ∧ p o
  | .mark g => B ≤ g ∧ w.heap[g]? = some (.deferred (some []))
structure Hp (B : Nat) (w0 w : World) (L : List Res) : Prop where
  below : Below B w0 w
  base : B ≤ w.heap.size
  ok : ∀ r ∈ L, r.ok w B
  dj : L.Pairwise (fun r s => r.blk = none ∨ r.blk ≠ s.blk)
theorem Res.ok.lt {w : World} {B : Nat} {r : Res} (h : r.ok w B) {k : Nat} (hk : r.blk = some k) : B ≤ k ∧ k < w.heap.size := by
  cases r with
  | row e sz v n xs => exact World.ownsRow.lt h k hk
  | box e g cs =>
    simp only [Res.blk, Option.some.injEq] at hk; subst hk
    exact ⟨h.1, (Array.getElem?_eq_some_iff.1 h.2).1⟩
  | obj g p =>
    simp only [Res.blk, Option.some.injEq] at hk; subst hk
    obtain ⟨h1, o, h2, _⟩ := h
    exact ⟨h1, (Array.getElem?_eq_some_iff.1 h2).1⟩
  | mark g =>
    simp only [Res.blk, Option.some.injEq] at hk; subst hk
    exact ⟨h.1, (Array.getElem?_eq_some_iff.1 h.2).1⟩
theorem Res.ok.of_block {w w' : World} {B : Nat} {r : Res} (h : r.ok w B) (hb : ∀ k, r.blk = some k → w'.heap[k]? = w.heap[k]?) : r.ok w' B := by
  cases r with
  | row e sz v n xs =>
    refine ⟨h.1, ?_⟩
    rcases h.2 with h2 | ⟨g, cap, cur, rfl, hg, hh, r⟩
    · exact .inl h2
    · exact .inr ⟨g, cap, cur, rfl, hg, by rw [hb g rfl]; exact hh, r⟩
  | box e g cs => exact ⟨h.1, by rw [hb g rfl]; exact h.2⟩
  | obj g p =>
    obtain ⟨h1, o, h2, h3⟩ := h
    exact ⟨h1, o, by rw [hb g rfl]; exact h2, h3⟩
  | mark g => exact ⟨h.1, by rw [hb g rfl]; exact h.2⟩
variable {B : Nat} {w0 w w' : World} {L : List Res}
theorem Hp.refl (w : World) : Hp w.heap.size w w [] := ⟨Below.refl _ _, Nat.le_refl _, by simp, List.Pairwise.nil⟩
theorem Hp.grow (h : Hp B w0 w L) (hb : Below w.heap.size w w') : Hp B w0 w' L :=
  ⟨h.below.trans (hb.mono h.base), Nat.le_trans h.base hb.size, fun r hr => (h.ok r hr).of_block fun k hk => hb.block k ((h.ok r hr).lt hk).2, h.dj⟩
theorem Hp.drew (h : Hp B w0 w L) : Hp B w0 w.drew L :=
  ⟨h.below.drew, h.base, fun r hr => (h.ok r hr).of_block fun _ _ => rfl, h.dj⟩
theorem Hp.drewN (h : Hp B w0 w L) (n : Nat) : Hp B w0 (w.drewN n) L :=
  ⟨below_drewN h.below n, h.base, fun r hr => (h.ok r hr).of_block fun _ _ => rfl, h.dj⟩
theorem Hp.call (h : Hp B w0 w L) {L' : List Res} (hb : Hp w.heap.size w w' L') : Hp B w0 w' (L' ++ L) := by
  have hg := h.grow hb.below
  refine ⟨hg.below, hg.base, ?_, ?_⟩
  · intro r hr
    rcases List.mem_append.1 hr with hr | hr
    · have := hb.ok r hr
      cases r with
      | row e sz v n xs =>
        refine ⟨this.1, ?_⟩
        rcases this.2 with h2 | ⟨g, cap, cur, rfl, hgg, rest⟩
        · exact .inl h2
        · exact .inr ⟨g, cap, cur, rfl, Nat.le_trans h.base hgg, rest⟩
      | box e g cs => exact ⟨Nat.le_trans h.base this.1, this.2⟩
      | obj g p => exact ⟨Nat.le_trans h.base this.1, this.2⟩
      | mark g => exact ⟨Nat.le_trans h.base this.1, this.2⟩
    · exact hg.ok r hr
  · refine List.pairwise_append.2 ⟨hb.dj, hg.dj, ?_⟩
    intro a ha b hb'
    cases hk : a.blk with
    | none => exact .inl rfl
    | some k =>
      right
      intro e
      have h1 := (hb.ok a ha).lt hk
      have h2 := (h.ok b hb').lt e.symm
      omega
theorem Hp.sub (h : Hp B w0 w L) {L' : List Res} (hs : L'.Sublist L) : Hp B w0 w L' :=
  ⟨h.below, h.base, fun r hr => h.ok r (hs.subset hr), h.dj.sublist hs⟩
theorem Hp.perm (h : Hp B w0 w L) {L' : List Res} (hs : L'.Perm L) : Hp B w0 w L' :=
  ⟨h.below, h.base, fun r hr => h.ok r (hs.subset hr), hs.symm.pairwise h.dj (fun {a b} hab => by
    rcases hab with h1 | h1
    · by_cases hb : b.blk = none
      · exact .inl hb
      · right; rw [h1]; exact hb
    · right; exact fun e => h1 e.symm)⟩
theorem Hp.drop1 {a : Res} (h : Hp B w0 w (a :: L)) : Hp B w0 w L := h.sub (List.sublist_cons_self a L)
theorem Hp.none (h : Hp B w0 w L) : Hp B w0 w [] := h.sub (List.nil_sublist L)
theorem Hp.cons (h : Hp B w0 w L) {r : Res} (hr : r.ok w B) (hd : ∀ s ∈ L, r.blk = .none ∨ r.blk ≠ s.blk) : Hp B w0 w (r :: L) :=
  ⟨h.below, h.base, by
    intro s hs
    rcases List.mem_cons.1 hs with rfl | hs
    · exact hr
    · exact h.ok s hs, List.pairwise_cons.2 ⟨hd, h.dj⟩⟩
theorem Hp.fresh (h : Hp B w0 w L) {r : Res} (hr : r.ok w' B) (hb : Below w.heap.size w w') (hlt : ∀ k, r.blk = some k → w.heap.size ≤ k) : Hp B w0 w' (r :: L) := by
  refine (h.grow hb).cons hr fun s hs => ?_
  cases hk : r.blk with
  | none => exact .inl rfl
  | some k =>
    right
    intro e
    have := (h.ok s hs).lt e.symm
    have := hlt k hk
    omega
theorem Hp.box (h : Hp B w0 w L) (e : TypeId) (cs : Array Value) {g : Nat} (hg : w.heap.size = g := by first | rfl | simp) : Hp B w0 (w.alloc (.cells cs e)) (.box e g cs.toList :: L) := by
  subst hg
  exact h.fresh ⟨h.base, (heap_alloc_new w _).trans (by simp)⟩ ((Below.refl _ _).alloc (Nat.le_refl _) _) (fun k hk => by simp [Res.blk] at hk; omega)
theorem Hp.lit (h : Hp B w0 w L) (e : TypeId) (sz : Nat) (cs : Array Value) (n : Nat) (hm : n ≤ maxLen) (hs : cs.size = n * sz) {g : Nat} (hg : w.heap.size = g := by first | rfl | simp) :
    Hp B w0 (w.alloc (.cells cs e)) (.row e sz (.slice (some ⟨g, 0, .none⟩) n n) n cs.toList :: L) := by
  subst hg
  exact h.fresh (World.ownsRow_lit w cs n h.base hm hs) ((Below.refl _ _).alloc (Nat.le_refl _) _) (fun k hk => by simp [Res.blk, Value.ownBlock] at hk; omega)
theorem Hp.nil (h : Hp B w0 w L) (e : TypeId) (sz : Nat) : Hp B w0 w (.row e sz (.slice .none 0 0) 0 [] :: L) :=
  h.cons (World.ownsRow_nil w B e sz) fun _ _ => .inl rfl
theorem Hp.turn (h : Hp B w0 w L) {i : Nat} {r r' : Res} (hi : L[i]? = some r) (hg : w.grownBy w' r.blk) (hr : r'.ok w' B) (hb : ∀ k, r'.blk = some k → r.blk = some k ∨ w.heap.size ≤ k) : Hp B w0 w' (L.set i r') := by
  have hbelow : Below B w w' := ⟨hg.os, hg.tape, hg.output, hg.size, fun k hk => hg.block k (Nat.lt_of_lt_of_le hk h.base) (fun e => by
    have := (h.ok r (List.mem_of_getElem? hi)).lt e.symm; omega)⟩
  have hlt : i < L.length := (List.getElem?_eq_some_iff.1 hi).1
  have hir : L[i] = r := (List.getElem?_eq_some_iff.1 hi).2
  have hd : ∀ j, (hj : j < L.length) → j ≠ i → (r.blk = .none ∨ r.blk ≠ L[j].blk) ∧ (L[j].blk = .none ∨ L[j].blk ≠ r.blk) := by
    intro j hj hne
    have sym : ∀ {a b : Res}, (a.blk = .none ∨ a.blk ≠ b.blk) → (b.blk = .none ∨ b.blk ≠ a.blk) := by
      intro a b hab
      by_cases hb : b.blk = .none
      · exact .inl hb
      · rcases hab with h1 | h1
        · right; rw [h1]; exact hb
        · right; exact fun e => h1 e.symm
    have hp := List.pairwise_iff_getElem.1 h.dj
    rcases Nat.lt_or_ge i j with hij | hij
    · have := hp i j hlt hj hij
      rw [hir] at this
      exact ⟨this, sym this⟩
    · have := hp j i hj hlt (by omega)
      rw [hir] at this
      exact ⟨sym this, this⟩
  have hnew : ∀ j, (hj : j < L.length) → j ≠ i → r'.blk = .none ∨ r'.blk ≠ L[j].blk := by
    intro j hj hne
    cases hk : r'.blk with
    | none => exact .inl rfl
    | some k =>
      right
      intro e
      rcases hb k hk with h1 | h1
      · have := (hd j hj hne).1
        rw [h1, ← e] at this
        simp at this
      · have := (h.ok L[j] (List.getElem_mem hj)).lt e.symm
        omega
  refine ⟨h.below.trans hbelow, Nat.le_trans h.base hg.size, ?_, ?_⟩
  · intro s hs
    obtain ⟨j, hj, rfl⟩ := List.getElem_of_mem hs
    rw [List.length_set] at hj
    rw [List.getElem_set]
    split
    · exact hr
    · rename_i hne
      refine (h.ok L[j] (List.getElem_mem hj)).of_block fun k hk => hg.block k ((h.ok L[j] (List.getElem_mem hj)).lt hk).2 ?_
      rcases (hd j hj (fun e => hne e.symm)).2 with h1 | h1
      · rw [hk] at h1; cases h1
      · rw [← hk]; exact h1
  · refine List.pairwise_iff_getElem.2 fun a b ha hb' hab => ?_
    rw [List.length_set] at ha hb'
    rw [List.getElem_set, List.getElem_set]
    have hp := List.pairwise_iff_getElem.1 h.dj a b ha hb' hab
    split
    · rw [if_neg (by omega)]
      exact hnew b hb' (by omega)
    · split
      · have := hnew a ha (by omega)
        by_cases hn : L[a].blk = .none
        · exact .inl hn
        · rcases this with h1 | h1
          · right; rw [h1]; exact hn
          · right; exact fun e => h1 e.symm
      · exact hp
theorem Hp.setRow (h : Hp B w0 w L) {i : Nat} {e : TypeId} {sz g n cap : Nat} {xs : List Value} (hi : L[i]? = some (.row e sz (.slice (some ⟨g, 0, .none⟩) n cap) n xs)) (k : Nat) (u : Value) :
    Hp B w0 (w.setCell ⟨g, k, .none⟩ u) (L.set i (.row e sz (.slice (some ⟨g, 0, .none⟩) n cap) n (xs.set k u))) := by
  have ho : w.ownsRow B e sz (.slice (some ⟨g, 0, .none⟩) n cap) n xs := h.ok _ (List.mem_of_getElem? hi)
  have hs := ho.stored k u
  exact h.turn hi hs.2 hs.1 (fun j hj => .inl hj)
theorem Hp.setBox (h : Hp B w0 w L) {i : Nat} {e : TypeId} {g : Nat} {cs : List Value} (hi : L[i]? = some (.box e g cs)) (k : Nat) (u : Value) :
    Hp B w0 (w.setCell ⟨g, k, .none⟩ u) (L.set i (.box e g (cs.set k u))) := by
  have ho : B ≤ g ∧ w.heap[g]? = some (.cells cs.toArray e (0, 0)) := h.ok _ (List.mem_of_getElem? hi)
  refine h.turn hi (r' := .box e g (cs.set k u)) ⟨rfl, rfl, rfl, by simp, fun j _ hj => heap_setCell_other w ⟨g, k, .none⟩ j u (fun e => hj (by simp [Res.blk, e]))⟩ ⟨ho.1, ?_⟩ (fun j hj => .inl hj)
  rw [heap_setCell_same w g k _ e u ho.2]
  simp
theorem Hp.rowAt (h : Hp B w0 w L) (i : Nat) {e : TypeId} {sz g n cap : Nat} {xs : List Value} (hi : L[i]? = some (.row e sz (.slice (some ⟨g, 0, .none⟩) n cap) n xs)) :
    (∀ k, k < n * sz → w.cell? ⟨g, k, .none⟩ = xs[k]?) ∧ (∀ k, w.frozen? ⟨g, k, .none⟩ = false) ∧ B ≤ g ∧ g < w.heap.size := by
  have ho : w.ownsRow B e sz (.slice (some ⟨g, 0, .none⟩) n cap) n xs := h.ok _ (List.mem_of_getElem? hi)
  have hl := ho.lt g rfl
  exact ⟨fun k hk => ho.cellAt k hk, fun k => ho.frozenAt k, hl.1, hl.2⟩
theorem Hp.boxAt (h : Hp B w0 w L) (i : Nat) {e : TypeId} {g : Nat} {cs : List Value} (hi : L[i]? = some (.box e g cs)) :
    (∀ k, w.cell? ⟨g, k, .none⟩ = cs[k]?) ∧ (∀ k, w.frozen? ⟨g, k, .none⟩ = false) ∧ B ≤ g ∧ g < w.heap.size := by
  have ho : B ≤ g ∧ w.heap[g]? = some (.cells cs.toArray e (0, 0)) := h.ok _ (List.mem_of_getElem? hi)
  refine ⟨fun k => ?_, fun k => frozen_of_row w g k _ e ho.2, ho.1, (Array.getElem?_eq_some_iff.1 ho.2).1⟩
  rw [cell_of_row w g k _ e (0, 0) ho.2]
  simp
theorem Hp.rowShape (h : Hp B w0 w L) (i : Nat) {e : TypeId} {sz n : Nat} {v : Value} {xs : List Value} (hi : L[i]? = some (.row e sz v n xs)) :
    ∃ a cap, v = .slice a n cap ∧ (0 < n → ∃ g, a = some ⟨g, 0, .none⟩) ∧ n ≤ 9223372036854775807 := by
  have ho : w.ownsRow B e sz v n xs := h.ok _ (List.mem_of_getElem? hi)
  rcases ho.2 with ⟨hv, h0⟩ | ⟨g, cap, cur, hv, _, _, hnc, hcm, _⟩
  · subst h0
    exact ⟨_, _, hv, fun h => absurd h (by omega), by omega⟩
  · exact ⟨_, cap, hv, fun _ => ⟨g, rfl⟩, by unfold maxLen at hcm; omega⟩
theorem Hp.sl (h : Hp B w0 w L) (i : Nat) {e : TypeId} {sz n : Nat} {v : Value} {xs : List Value} (hi : L[i]? = some (.row e sz v n xs)) (hn : n ≤ 140737488355328) {f : Nat → Value} (hf : ∀ j, j < n * sz → xs[j]? = some (f j)) : Sl w v sz n f := by
  have ho : w.ownsRow B e sz v n xs := h.ok _ (List.mem_of_getElem? hi)
  refine ⟨hn, ?_, ?_⟩
  case refine_2 =>
    intro a m c hv'
    rcases ho.2 with ⟨hv, h0⟩ | ⟨g, cap, cur, hv, _, _, hnc, _⟩
    · rw [hv] at hv'
      simp only [Value.slice.injEq] at hv'
      omega
    · rw [hv] at hv'
      simp only [Value.slice.injEq] at hv'
      omega
  rcases ho.2 with ⟨hv, h0⟩ | ⟨g, cap, cur, rfl, _⟩
  · exact ⟨_, _, by rw [hv, h0], .inl h0⟩
  · exact ⟨_, _, rfl, .inr ⟨g, 0, rfl, fun j hj => by rw [Nat.zero_add, ho.cellAt j hj, hf j hj]⟩⟩
theorem Sl.below {v : Value} {sz n : Nat} {f : Nat → Value} (h : Sl w v sz n f) (hb : Below w.heap.size w w') : Sl w' v sz n f := by
  refine ⟨h.len, ?_, h.room⟩
  obtain ⟨a, cap, hv, hc⟩ := h.out
  refine ⟨a, cap, hv, ?_⟩
  rcases hc with h0 | ⟨b, off, ha, hc⟩
  · exact .inl h0
  · exact .inr ⟨b, off, ha, fun j hj => by
      have h1 := hc j hj
      rw [hb.cell (p := ⟨b, off + j, .none⟩) (World.block_lt_of_cell? w _ h1)]
      exact h1⟩
structure SlTy (P : Program) (t e : TypeId) (sz bytes : Nat) (z : Value) : Prop where
  und : P.underlying t = some (.slice e)
  inf : (P.info? e).map (fun i => (i.zero, i.size, i.bytes)) = some (some z, sz, bytes)
  zs : z.cells.size = sz
  pos : 0 < sz
theorem wpList_append_hp {P : Program} {ops : Array Oper} {rest : List Oper} {o : Oper} {a : Act} {Q : Exit → Act → World → Prop} (hgd : o.guard = .none) (s x : Operand) (t : TypeId)
    (ho : o.op = .call { callee := .builtin .append, args := #[s, x], argTypes := #[t, t] }) {e : TypeId} {sz bytes : Nat} {z : Value} (T : SlTy P t e sz bytes z)
    (h : Hp B w0 w L) (i : Nat) {v : Value} {n : Nat} {xs : List Value} (hi : L[i]? = some (.row e sz v n xs)) (hs : a.eval s = v)
    (ad : Addr) (m c : Nat) (news : List Value) (hx : a.eval x = .slice (some ad) m c) (hl : news.length = m * sz) (hnews : ∀ j u, news[j]? = some u → w.cell? (ad.add j) = some u) (h1 : ∀ u ∈ news, u.oneCell' = true)
    (hbytes : (n + m) * bytes ≤ 140737488355328) (h63 : n + m ≤ 9223372036854775807)
    (hk : ∀ v' w', Hp B w0 w' (L.set i (.row e sz v' (n + m) (xs ++ news))) → (0 < m → ∃ g cap, v' = .slice (some ⟨g, 0, .none⟩) (n + m) cap) → wpList P ops Q rest (a.put o.dst v') w') :
    wpList P ops Q (o :: rest) a w := by
  have hown : w.ownsRow B e sz v n xs := h.ok _ (List.mem_of_getElem? hi)
  obtain ⟨i0, hi0, hz0, hz1, hz2⟩ := info_parts T.inf
  refine wpList_append_own_at w hgd s x t ho B e i0 z sz bytes T.und hi0 hz0 hz1 hz2 T.zs T.pos v n xs hs hown ad m c news hx hl hnews h1 (by unfold maxLen; omega) hbytes h.base ?_
  intro v' w' hown' hg hnil hat
  have hp := h.turn hi hg (r' := .row e sz v' (n + m) (xs ++ news)) hown' (fun k hk => by
    rcases hat with h1 | h1
    · left; show v.ownBlock = some k; rw [← h1]; exact hk
    · right
      have : some k = some w.heap.size := by rw [← h1]; exact hk.symm
      simp only [Option.some.injEq] at this
      omega)
  refine hk v' w' hp fun hm => ?_
  rcases hown'.2 with ⟨_, h0⟩ | ⟨g, cap, cur, hv, _⟩
  · omega
  · exact ⟨g, cap, hv⟩
theorem wpList_append1_hp {P : Program} {ops : Array Oper} {rest : List Oper} {o : Oper} {a : Act} {Q : Exit → Act → World → Prop} (hgd : o.guard = .none) (s x : Operand) (t : TypeId)
    (ho : o.op = .call { callee := .builtin .append, args := #[s, x], argTypes := #[t, t] }) {e : TypeId} {bytes : Nat} {z : Value} (T : SlTy P t e 1 bytes z)
    (h : Hp B w0 w L) (i : Nat) {v : Value} {n : Nat} {xs : List Value} (hi : L[i]? = some (.row e 1 v n xs)) (hs : a.eval s = v)
    (g c : Nat) (y : Value) (hx : a.eval x = .slice (some ⟨g, 0, .none⟩) 1 c) (hnews : w.cell? ⟨g, 0, .none⟩ = some y) (h1 : y.oneCell' = true)
    (hbytes : (n + 1) * bytes ≤ 140737488355328) (h63 : n + 1 ≤ 9223372036854775807)
    (hk : ∀ g' cap w', Hp B w0 w' (L.set i (.row e 1 (.slice (some ⟨g', 0, .none⟩) (n + 1) cap) (n + 1) (xs ++ [y]))) → wpList P ops Q rest (a.put o.dst (.slice (some ⟨g', 0, .none⟩) (n + 1) cap)) w') :
    wpList P ops Q (o :: rest) a w := by
  refine wpList_append_hp hgd s x t ho T h i hi hs ⟨g, 0, .none⟩ 1 c [y] hx rfl ?_ (by simpa using h1) hbytes h63 ?_
  · intro j u hj
    cases j with
    | zero => simp at hj; subst hj; simpa [Addr.add] using hnews
    | succ j => simp at hj
  · intro v' w' hp hf
    obtain ⟨g', cap, rfl⟩ := hf (by omega)
    exact hk g' cap w' hp
end Go.Proofs.Ytmclgfipdgmomaa
namespace Go.Proofs.Ytmclgfipdgmomaa
open Go.RowKit
theorem beq_ne {i d : Nat} (h : i ≠ d) : Nat.beq i d = false := by
  cases hb : Nat.beq i d with
  | false => rfl
  | true => exact absurd (Nat.eq_of_beq_eq_true hb) h
def memN (i : Nat) : List Nat → Bool
  | [] => false
  | w :: ws => cond (Nat.beq i w) true (memN i ws)
theorem memN_iff (i : Nat) (W : List Nat) : memN i W = true ↔ i ∈ W := by
  induction W with
  | nil => simp [memN]
  | cons w W ih =>
    simp only [memN, List.mem_cons]
    by_cases h : i = w
    · subst h; simp
    · have : Nat.beq i w = false := beq_ne h
      rw [this]; simp [ih, h]
section
variable (P : Program) (ops : Array Oper)
def wpPure (C : World → Prop) (Q : Act → Prop) : List Oper → Act → Prop
  | [], a => Q a
  | o :: rest, a => if Region.wanted o (yielded ops a.tmps) then ∃ v, (∀ w, C w → (execOp a.eval o).run P w = .ok (.value v) w) ∧ wpPure C Q rest (a.put o.dst v) else wpPure C Q rest (a.put o.dst undef)
def wpListC (C : World → Prop) (Q : Exit → Act → World → Prop) : List Oper → Act → World → Prop
  | [], a, w => C w ∧ Q .normal a w
  | o :: rest, a, w => C w ∧ if Region.wanted o (yielded ops a.tmps) then o.wp P a w (wpListC C Q rest) Q else wpListC C Q rest (a.put o.dst undef) w
def anyC (C : Array Bool → World → Prop) (Q : Exit → Act → World → Prop) : Nat → Array Bool → Act → World → Prop
  | 0, listed, a, w => C listed w ∧ Region.ready .any ops listed = [] ∧ Q .normal a w
  | f + 1, listed, a, w => C listed w ∧ (Region.ready .any ops listed = [] → Q .normal a w) ∧ ∀ i ∈ Region.ready .any ops listed, wpOp P ops Q i (anyC C Q f (listed.setIfInBounds i true)) a w
def waiters (i : Nat) : List Nat :=
  (List.range ops.size).foldl (fun W j => match ops[j]? with
    | some oj => if oj.after.any (fun e => Region.binds .any e && (Nat.beq e.on i || memN e.on W)) then j :: W else W
    | none => W) []
def started (T : List Nat) (listed : Array Bool) : Bool := T.any fun t => listed.getD t false
def stepB (T : List Nat) (listed : Array Bool) (i : Nat) : Bool :=
  (Region.ready .any ops listed).contains i && Region.free .any ops listed i && !memN i T && (waiters ops i).all fun j => !listed.getD j true
def seqLB : List Nat → Array Bool → Bool
  | [], listed => (Region.ready .any ops listed).isEmpty
  | t :: T, listed => decide (Region.ready .any ops listed = [t]) && seqLB T (listed.setIfInBounds t true)
def chainLB (T : List Nat) : List (Nat × Bool) → Array Bool → Bool
  | [], listed => seqLB ops T listed
  | (i, t1) :: E, listed => stepB ops T listed i && (!t1 || T.all fun t => memN t (waiters ops i)) && chainLB T E (listed.setIfInBounds i true)
def wpEarly (wf : World) (Cw : World → Prop) (Q : Act → Prop) : List (Nat × Bool) → Act → Prop
  | [], a => Q a
  | (i, t1) :: E, a => ∃ oi, ops[i]? = some oi ∧ if Region.wanted oi (yielded ops a.tmps) then ∃ v, (∀ w, (if t1 = true then w = wf else Cw w) → (execOp a.eval oi).run P w = .ok (.value v) w) ∧ wpEarly wf Cw Q E (a.put oi.dst v) else wpEarly wf Cw Q E (a.put oi.dst undef)
end
section
variable {P : Program} {ops : Array Oper} {Q : Exit → Act → World → Prop} {C : Array Bool → World → Prop}
theorem anyC_any : ∀ (f : Nat) (listed : Array Bool) (a : Act) (w : World), anyC P ops C Q f listed a w → wpAny P .any ops Q f listed a w
  | 0, _, _, _, h => ⟨h.2.1, h.2.2⟩
  | f + 1, _, _, _, h => ⟨h.2.1, fun i hi => wpOp_mono (fun a w h => anyC_any f _ a w h) (h.2.2 i hi)⟩
theorem anyC.cls {f : Nat} {listed : Array Bool} {a : Act} {w : World} (h : anyC P ops C Q f listed a w) : C listed w := by
  cases f with
  | zero => exact h.1
  | succ f => exact h.1
theorem waiters_spec (i j : Nat) (h : j ∈ waiters ops i) : ∃ oj, ops[j]? = some oj ∧ ∃ e ∈ oj.after, Region.binds .any e = true ∧ (e.on = i ∨ e.on ∈ waiters ops i) := by
  have key : ∀ (l : List Nat) (W : List Nat), (∀ j ∈ W, ∃ oj, ops[j]? = some oj ∧ ∃ e ∈ oj.after, Region.binds .any e = true ∧ (e.on = i ∨ e.on ∈ W)) →
      ∀ j ∈ l.foldl (fun W j => match ops[j]? with
        | some oj => if oj.after.any (fun e => Region.binds .any e && (Nat.beq e.on i || memN e.on W)) then j :: W else W
        | none => W) W, ∃ oj, ops[j]? = some oj ∧ ∃ e ∈ oj.after, Region.binds .any e = true ∧ (e.on = i ∨ e.on ∈ l.foldl (fun W j => match ops[j]? with
        | some oj => if oj.after.any (fun e => Region.binds .any e && (Nat.beq e.on i || memN e.on W)) then j :: W else W
        | none => W) W) := by
    intro l
    induction l with
    | nil => intro W h; exact h
    | cons k l ih =>
      intro W hW
      rw [List.foldl_cons]
      refine ih _ ?_
      intro j hj
      cases hk : ops[k]? with
      | none => rw [hk] at hj; simpa only [hk] using hW j hj
      | some ok =>
        rw [hk] at hj
        simp only at hj ⊢
        by_cases hc : ok.after.any (fun e => Region.binds .any e && (Nat.beq e.on i || memN e.on W)) = true
        · rw [if_pos hc] at hj ⊢
          rcases List.mem_cons.1 hj with rfl | hj
          · obtain ⟨e, he, hb⟩ := Array.any_eq_true'.1 hc
            simp only [Bool.and_eq_true, Bool.or_eq_true] at hb
            refine ⟨ok, hk, e, he, hb.1, ?_⟩
            rcases hb.2 with h1 | h1
            · exact .inl (Nat.eq_of_beq_eq_true h1)
            · exact .inr (List.mem_cons_of_mem _ ((memN_iff _ _).1 h1))
          · obtain ⟨oj, h1, e, h2, h3, h4⟩ := hW j hj
            exact ⟨oj, h1, e, h2, h3, h4.imp id (List.mem_cons_of_mem _)⟩
        · rw [if_neg hc] at hj ⊢
          exact hW j hj
  exact key _ [] (by simp) j h
theorem wpOp_putY {j : Nat} {oi oj : Oper} {v : Value} (hj : ops[j]? = some oj) (hap : oi.apart ops oj = true) (hsj : ∀ cs b, oj.op ≠ .select cs b)
    (hQ : ∀ c a w, Q (.panic c) (a.put oi.dst v) w → Q (.panic c) a w) {K : Act → World → Prop} {a : Act} {w : World} {Y : Act → Prop}
    (keep : ∀ a, Y a → ∀ u, Y (a.put oj.dst u)) (keepD : ∀ a d, Y a → Y { a with defers := d :: a.defers })
    (hy : Y a) (h : wpOp P ops Q j K (a.put oi.dst v) w) : wpOp P ops Q j (fun a' w' => Y a' ∧ K (a'.put oi.dst v) w') a w := by
  obtain ⟨h1, h2, h3⟩ := Oper.apart_spec hap
  unfold wpOp at *
  simp only [hj] at *
  rw [wanted_put oj a oi.dst v h1] at h
  split
  · rename_i hw
    simp only [hw, if_true] at h
    rcases h with h | ⟨hasks, hlets⟩
    case inr => exact .inr ⟨by unfold Oper.asks at *; rw [execOp_put oj hsj a oi.dst v h1] at hasks; exact hasks, hlets⟩
    refine .inl ?_
    unfold Oper.wp at *
    rw [execOp_put oj hsj a oi.dst v h1] at h
    generalize (execOp a.eval oj).run P w = r at *
    cases r with
    | ok n w' =>
      cases n <;> simp only [Oper.upon] at h ⊢
      case value u => exact ⟨keep a hy u, by rw [← Act.put_comm a v u h2]; exact h⟩
      case skip => exact ⟨keep a hy _, by rw [← Act.put_comm a v undef h2]; exact h⟩
      case defer d =>
        refine ⟨keep _ (keepD a d hy) _, ?_⟩
        rw [← Act.put_comm _ v undef h2, ← Act.put_defers]
        exact h
      case enter f args =>
        refine Calls.mono h fun e w'' he => ?_
        cases e with
        | returned u => exact ⟨keep a hy u, by rw [← Act.put_comm a v u h2]; exact he⟩
        | panicked c => exact hQ _ _ _ he
        | outgrown => exact he
      case row row args => exact Rows.mono h fun u w'' he => ⟨keep a hy u, by rw [← Act.put_comm a v u h2]; exact he⟩
    | halt x w' =>
      cases x <;> simp only [Oper.upon] at h ⊢
      case panic u => exact hQ _ _ _ h
  · rename_i hw
    simp only [hw] at h
    exact ⟨keep a hy _, by rw [← Act.put_comm a v undef h2]; exact h⟩
theorem anyC_first {i : Nat} {oi : Oper} {v : Value} (hi : ops[i]? = some oi) (hsel : ∀ (j : Nat) (o : Oper) cs b, ops[j]? = some o → o.op ≠ .select cs b)
    (hQ : ∀ c a w, ¬ Q (.panic c) a w) (hC : ∀ listed w, (listed.getD i true = false) → C (listed.setIfInBounds i true) w → C listed w) :
    ∀ (fuel : Nat) (listed : Array Bool) (a : Act) (w : World),
      (∀ j oj, ops[j]? = some oj → j ≠ i → listed.getD j true = false → (∀ e ∈ oj.after, Region.binds .any e = true → e.on ≠ i) → oi.apart ops oj = true) →
      i ∈ Region.ready .any ops listed → (∀ j ∈ waiters ops i, listed.getD j true = false) →
      ((Region.wanted oi (yielded ops a.tmps) = true ∧ ∀ (listed' : Array Bool) (w' : World), listed'.getD i true = false → (∀ j ∈ waiters ops i, listed'.getD j true = false) → C listed' w' → (execOp a.eval oi).run P w' = .ok (.value v) w') ∨
        (Region.wanted oi (yielded ops a.tmps) = false ∧ v = undef)) →
      anyC P ops C Q fuel (listed.setIfInBounds i true) (a.put oi.dst v) w → anyC P ops C Q (fuel + 1) listed a w := by
  intro fuel
  have now : ∀ (f : Nat) (listed : Array Bool) (a : Act) (w : World), i ∈ Region.ready .any ops listed → (∀ j ∈ waiters ops i, listed.getD j true = false) → C listed w →
      ((Region.wanted oi (yielded ops a.tmps) = true ∧ ∀ (listed' : Array Bool) (w' : World), listed'.getD i true = false → (∀ j ∈ waiters ops i, listed'.getD j true = false) → C listed' w' → (execOp a.eval oi).run P w' = .ok (.value v) w') ∨
        (Region.wanted oi (yielded ops a.tmps) = false ∧ v = undef)) →
      anyC P ops C Q f (listed.setIfInBounds i true) (a.put oi.dst v) w → wpOp P ops Q i (anyC P ops C Q f (listed.setIfInBounds i true)) a w := by
    intro f listed a w hr hW hc hy H
    unfold wpOp
    simp only [hi]
    rcases hy with ⟨hw, hy⟩ | ⟨hw, rfl⟩
    · rw [if_pos hw]
      left
      unfold Oper.wp
      rw [hy listed w (mem_ready.1 hr).1 hW hc, Oper.upon_value]
      exact H
    · rw [if_neg (by rw [hw]; simp)]
      exact H
  induction fuel with
  | zero =>
    intro listed a w hfree hr hW hy H
    have hc := hC listed w (mem_ready.1 hr).1 H.cls
    refine ⟨hc, fun h => (by rw [h] at hr; cases hr), fun j hj => ?_⟩
    by_cases hji : j = i
    · subst hji; exact now 0 listed a w hr hW hc hy H
    · have := ready_mono hj hji
      rw [H.2.1] at this
      cases this
  | succ fuel ih =>
    intro listed a w hfree hr hW hy H
    have hc := hC listed w (mem_ready.1 hr).1 H.cls
    refine ⟨hc, fun h => (by rw [h] at hr; cases hr), fun j hj => ?_⟩
    by_cases hji : j = i
    · subst hji; exact now (fuel + 1) listed a w hr hW hc hy H
    · have h1 := H.2.2 j (ready_mono hj hji)
      obtain ⟨hjun, oj, hoj, hall⟩ := mem_ready.1 hj
      have hun : ∀ k, listed.getD k true = false → listed.getD k false = true → False := fun k h0 h1 => by
        rcases Nat.lt_or_ge k listed.size with h' | h'
        · simp [h'] at h0 h1; rw [h0] at h1; cases h1
        · simp [Array.getElem?_eq_none h'] at h1
      have hnot : ∀ e ∈ oj.after, Region.binds .any e = true → e.on ≠ i := fun e he hb heq => by
        have h1 := hall e he hb
        rw [heq] at h1
        exact hun i (mem_ready.1 hr).1 h1
      have hjW : j ∉ waiters ops i := fun hjW => by
        obtain ⟨oj', hoj', e, he, hb, hon⟩ := waiters_spec i j hjW
        obtain rfl : oj' = oj := Option.some.inj (hoj'.symm.trans hoj)
        have h1 := hall e he hb
        rcases hon with hon | hon
        · exact hnot e he hb hon
        · exact hun e.on (hW e.on hon) h1
      obtain ⟨p1, p2, p3⟩ := Oper.apart_spec (hfree j oj hoj hji hjun hnot)
      have keep : ∀ (a : Act), ((Region.wanted oi (yielded ops a.tmps) = true ∧ ∀ (listed' : Array Bool) (w' : World), listed'.getD i true = false → (∀ j ∈ waiters ops i, listed'.getD j true = false) → C listed' w' → (execOp a.eval oi).run P w' = .ok (.value v) w') ∨
          (Region.wanted oi (yielded ops a.tmps) = false ∧ v = undef)) → ∀ u, ((Region.wanted oi (yielded ops (a.put oj.dst u).tmps) = true ∧ ∀ (listed' : Array Bool) (w' : World), listed'.getD i true = false → (∀ j ∈ waiters ops i, listed'.getD j true = false) → C listed' w' → (execOp (a.put oj.dst u).eval oi).run P w' = .ok (.value v) w') ∨
          (Region.wanted oi (yielded ops (a.put oj.dst u).tmps) = false ∧ v = undef)) := fun a hy u => by
        rw [execOp_put oi (fun cs b => hsel i oi cs b hi) a oj.dst u p3, wanted_put oi a oj.dst u p3]
        exact hy
      have h2 := wpOp_putY (Y := fun a => (Region.wanted oi (yielded ops a.tmps) = true ∧ ∀ (listed' : Array Bool) (w' : World), listed'.getD i true = false → (∀ j ∈ waiters ops i, listed'.getD j true = false) → C listed' w' → (execOp a.eval oi).run P w' = .ok (.value v) w') ∨
          (Region.wanted oi (yielded ops a.tmps) = false ∧ v = undef)) hoj (hfree j oj hoj hji hjun hnot) (fun cs b => hsel j oj cs b hoj) (fun c a w h => absurd h (hQ _ _ _)) keep (fun a d h => h) hy h1
      have hfree' : ∀ k ok, ops[k]? = some ok → k ≠ i → (listed.setIfInBounds j true).getD k true = false →
          (∀ e ∈ ok.after, Region.binds .any e = true → e.on ≠ i) → oi.apart ops ok = true := fun k ok hk hki hun' hno => by
        refine hfree k ok hk hki ?_ hno
        by_cases hjk : j = k
        · subst hjk; exact hjun
        · rw [getD_set_ne true hjk] at hun'; exact hun'
      have hW' : ∀ k ∈ waiters ops i, (listed.setIfInBounds j true).getD k true = false := fun k hk => by
        rw [getD_set_ne true (fun e => hjW (by rw [e]; exact hk))]
        exact hW k hk
      refine wpOp_mono (fun a' w' h3 => ih (listed.setIfInBounds j true) a' w' hfree' (ready_mono hr (Ne.symm hji)) hW' h3.1 ?_) h2
      rw [Array.setIfInBounds_comm _ _ hji]
      exact h3.2
theorem anyC_seq {wf : World} {Cw : World → Prop} (T0 : List Nat) : ∀ (T : List Nat) (lo : List Oper) (listed : Array Bool) (a : Act) (w : World), T.map (fun t => ops[t]?) = lo.map some → (∀ t ∈ T, t ∈ T0) → seqLB ops T listed = true → (started T0 listed = false → w = wf) → wpListC P ops Cw Q lo a w →
    anyC P ops (fun listed w => (started T0 listed = false → w = wf) ∧ Cw w) Q T.length listed a w
  | [], lo, listed, a, w, hm, _, hB, hs, h => by
    obtain rfl : lo = [] := by simpa using hm.symm
    exact ⟨⟨hs, h.1⟩, by simpa [seqLB] using hB, h.2⟩
  | t :: T, lo, listed, a, w, hm, hT, hB, hs, h => by
    cases lo with
    | nil => simp at hm
    | cons o lo =>
      simp only [List.map_cons, List.cons.injEq] at hm
      obtain ⟨h0, hm⟩ := hm
      simp only [seqLB, Bool.and_eq_true, decide_eq_true_eq] at hB
      obtain ⟨hcw, h⟩ := h
      refine ⟨⟨hs, hcw⟩, fun h1 => (by rw [hB.1] at h1; cases h1), fun i hi => ?_⟩
      rw [hB.1] at hi
      have hit : i = t := by simpa using hi
      subst hit
      have hstart : started T0 (listed.setIfInBounds i true) = true := by
        unfold started
        rw [List.any_eq_true]
        refine ⟨i, hT i (by simp), ?_⟩
        have hlt : i < listed.size := by
          have hr : i ∈ Region.ready .any ops listed := by rw [hB.1]; simp
          have h0 := (mem_ready.1 hr).1
          rcases Nat.lt_or_ge i listed.size with h' | h'
          · exact h'
          · simp [Array.getElem?_eq_none h'] at h0
        simp [hlt]
      unfold wpOp
      simp only [h0]
      have next : ∀ a w, wpListC P ops Cw Q lo a w → anyC P ops (fun listed w => (started T0 listed = false → w = wf) ∧ Cw w) Q T.length (listed.setIfInBounds i true) a w := fun a w h =>
        anyC_seq T0 T lo _ a w hm (fun t ht => hT t (by simp [ht])) hB.2 (fun h1 => by rw [hstart] at h1; cases h1) h
      split
      · rename_i hw
        rw [if_pos hw] at h
        exact .inl (Oper.wp_mono next h)
      · rename_i hw
        rw [if_neg hw] at h
        exact next _ _ h
theorem started_set {T : List Nat} {i : Nat} (h : memN i T = false) (listed : Array Bool) : started T (listed.setIfInBounds i true) = started T listed := by
  unfold started
  rw [Bool.eq_iff_iff]
  simp only [List.any_eq_true]
  have hne : ∀ t ∈ T, i ≠ t := fun t ht e => by
    subst e
    rw [(memN_iff _ _).2 ht] at h
    cases h
  constructor
  · rintro ⟨t, ht, hb⟩
    rw [getD_set_ne false (hne t ht)] at hb
    exact ⟨t, ht, hb⟩
  · rintro ⟨t, ht, hb⟩
    refine ⟨t, ht, ?_⟩
    rw [getD_set_ne false (hne t ht)]
    exact hb
theorem anyC_early {wf : World} {Cw : World → Prop} (T : List Nat) (lo : List Oper) (hm : T.map (fun t => ops[t]?) = lo.map some) (hcw : Cw wf) (hsel : Region.noSelect ops = true) (hQ : ∀ c a w, ¬ Q (.panic c) a w) :
    ∀ (E : List (Nat × Bool)) (listed : Array Bool) (a : Act), chainLB ops T E listed = true → started T listed = false → wpEarly P ops wf Cw (fun a' => wpListC P ops Cw Q lo a' wf) E a →
    anyC P ops (fun listed w => (started T listed = false → w = wf) ∧ Cw w) Q (E.length + T.length) listed a wf
  | [], listed, a, hB, hs, h => by
    rw [List.length_nil, Nat.zero_add]
    exact anyC_seq T T lo listed a wf hm (fun t ht => ht) hB (fun _ => rfl) h
  | (i, t1) :: E, listed, a, hB, hs, h => by
    simp only [chainLB, stepB, Bool.and_eq_true, Bool.not_eq_true'] at hB
    obtain ⟨⟨⟨⟨⟨hr, hf⟩, hiT⟩, hW⟩, ht1⟩, hB'⟩ := hB
    obtain ⟨oi, hi, h⟩ := h
    have hr' : i ∈ Region.ready .any ops listed := by simpa using hr
    have hW' : ∀ j ∈ waiters ops i, listed.getD j true = false := fun j hj => by
      have := List.all_eq_true.1 hW j hj
      simpa using this
    have hs' : started T (listed.setIfInBounds i true) = false := by rw [started_set hiT]; exact hs
    have hC : ∀ listed w, listed.getD i true = false → ((started T (listed.setIfInBounds i true) = false → w = wf) ∧ Cw w) → ((started T listed = false → w = wf) ∧ Cw w) := fun listed w _ h =>
      ⟨fun h1 => h.1 (by rw [started_set hiT]; exact h1), h.2⟩
    rw [show (List.length ((i, t1) :: E)) + T.length = (E.length + T.length) + 1 by simp; omega]
    by_cases hw : Region.wanted oi (yielded ops a.tmps) = true
    · rw [if_pos hw] at h
      obtain ⟨v, hv, hk⟩ := h
      refine anyC_first hi (Region.noSelect_spec hsel) hQ hC _ listed a wf (Region.free_spec hi hf) hr' hW' (.inl ⟨hw, fun listed' w' hiu hWu hc => ?_⟩) (anyC_early T lo hm hcw hsel hQ E _ _ hB' hs' hk)
      refine hv w' ?_
      cases t1 with
      | false => simpa using hc.2
      | true =>
        simp only [if_true]
        refine hc.1 ?_
        have hall : T.all (fun t => memN t (waiters ops i)) = true := by simpa using ht1
        unfold started
        rw [List.any_eq_false]
        intro t ht hb
        have h1 := hWu t ((memN_iff _ _).1 (List.all_eq_true.1 hall t ht))
        rcases Nat.lt_or_ge t listed'.size with h' | h'
        · simp [h'] at h1 hb; rw [h1] at hb; cases hb
        · simp [Array.getElem?_eq_none h'] at hb
    · rw [if_neg hw] at h
      exact anyC_first hi (Region.noSelect_spec hsel) hQ hC _ listed a wf (Region.free_spec hi hf) hr' hW' (.inr ⟨by simpa using hw, rfl⟩) (anyC_early T lo hm hcw hsel hQ E _ _ hB' hs' h)
theorem wpEarly_append {wf : World} {Cw : World → Prop} {Qa : Act → Prop} : ∀ (E1 E2 : List (Nat × Bool)) (a : Act), wpEarly P ops wf Cw (fun a' => wpEarly P ops wf Cw Qa E2 a') E1 a → wpEarly P ops wf Cw Qa (E1 ++ E2) a
  | [], E2, a, h => h
  | (i, t) :: E1, E2, a, h => by
    obtain ⟨oi, hi, h⟩ := h
    refine ⟨oi, hi, ?_⟩
    split
    · rename_i hw
      rw [if_pos hw] at h
      obtain ⟨v, h1, h2⟩ := h
      exact ⟨v, h1, wpEarly_append E1 E2 _ h2⟩
    · rename_i hw
      rw [if_neg hw] at h
      exact wpEarly_append E1 E2 _ h
theorem wpEarly_of_pure {wf : World} {Cw C : World → Prop} {Qa : Act → Prop} (t1 : Bool) (hC : ∀ w, (if t1 = true then w = wf else Cw w) → C w) : ∀ (A : List Nat) (lo : List Oper) (a : Act), A.map (fun t => ops[t]?) = lo.map some → wpPure P ops C Qa lo a → wpEarly P ops wf Cw Qa (A.map fun i => (i, t1)) a
  | [], lo, a, hm, h => by
    obtain rfl : lo = [] := by simpa using hm.symm
    exact h
  | i :: A, lo, a, hm, h => by
    cases lo with
    | nil => simp at hm
    | cons o lo =>
      simp only [List.map_cons, List.cons.injEq] at hm
      obtain ⟨h0, hm⟩ := hm
      refine ⟨o, h0, ?_⟩
      unfold wpPure at h
      split
      · rename_i hw
        rw [if_pos hw] at h
        obtain ⟨v, h1, h2⟩ := h
        exact ⟨v, fun w hw => h1 w (hC w hw), wpEarly_of_pure t1 hC A lo _ hm h2⟩
      · rename_i hw
        rw [if_neg hw] at h
        exact wpEarly_of_pure t1 hC A lo _ hm h
def mixB (ops : Array Oper) (A B A' T : List Nat) : Bool :=
  Region.noSelect ops && Nat.beq (A.length + B.length + A'.length + T.length) ops.size && chainLB ops T ((A.map fun i => (i, false)) ++ ((B.map fun i => (i, true)) ++ (A'.map fun i => (i, false)))) (Array.replicate ops.size false)
theorem wp_region_mix {id : Nat} {a : Act} {w : World} {C Cw : World → Prop} (A B A' T : List Nat) (la lb la' lt : List Oper) (hm : P.follows .mixedOrders = true) (hB : mixB ops A B A' T = true)
    (h1 : A.map (fun t => ops[t]?) = la.map some) (h2 : B.map (fun t => ops[t]?) = lb.map some) (h3 : A'.map (fun t => ops[t]?) = la'.map some) (h4 : T.map (fun t => ops[t]?) = lt.map some)
    (hQ : ∀ c a w, ¬ Q (.panic c) a w) (hc : C w.drew) (hcw : Cw w.drew)
    (h : wpPure P ops Cw (fun a1 => wpPure P ops C (fun a2 => wpPure P ops Cw (fun a3 => wpListC P ops Cw Q lt a3 w.drew) la' a2) lb a1) la a) : (Code.region id ops true).wp P Q a w := by
  simp only [mixB, Bool.and_eq_true] at hB
  obtain ⟨⟨hsel, hsz⟩, hch⟩ := hB
  have hsz' := Nat.eq_of_beq_eq_true hsz
  refine wp_region_any hm ?_
  have e := anyC_early (P := P) (ops := ops) (Q := Q) (wf := w.drew) (Cw := Cw) T lt h4 hcw hsel hQ _ (Array.replicate ops.size false) a hch (by
    unfold started
    rw [List.any_eq_false]
    intro t _
    simp only [Array.getD_eq_getD_getElem?, Array.getElem?_replicate]
    split <;> simp) (by
    refine wpEarly_append _ _ a (wpEarly_of_pure false (fun w hw => by simpa using hw) A la a h1 ?_)
    have mono : ∀ {C : World → Prop} {Q1 Q2 : Act → Prop} (hq : ∀ a, Q1 a → Q2 a) (l : List Oper) (a : Act), wpPure P ops C Q1 l a → wpPure P ops C Q2 l a := by
      intro C Q1 Q2 hq l
      induction l with
      | nil => intro a h; exact hq _ h
      | cons o l ih =>
        intro a h
        unfold wpPure at h ⊢
        split
        · rename_i hw
          rw [if_pos hw] at h
          obtain ⟨v, h1, h2⟩ := h
          exact ⟨v, h1, ih _ h2⟩
        · rename_i hw
          rw [if_neg hw] at h
          exact ih _ h
    refine mono (fun a1 h => wpEarly_append _ _ a1 (wpEarly_of_pure true (fun w' hw => by simp only [if_true] at hw; subst hw; exact hc) B lb a1 h2 (mono (fun a2 h => wpEarly_of_pure false (fun w hw => by simpa using hw) A' la' a2 h3 h) lb a1 h))) la a h)
  have hlen : (List.map (fun i => (i, false)) A ++ (List.map (fun i => (i, true)) B ++ List.map (fun i => (i, false)) A')).length + T.length = ops.size := by
    simp only [List.length_append, List.length_map]; omega
  rw [hlen] at e
  exact anyC_any _ _ _ _ e
end
end Go.Proofs.Ytmclgfipdgmomaa
namespace Go.Proofs.Ytmclgfipdgmomaa
open Go.RowKit
abbrev Fm := Option Nat → Value
def upd (F : Fm) (d : Nat) (v : Value) : Fm
  | some i => cond (Nat.beq i d) v (F (some i))
  | none => F none
def updo (F : Fm) : Option Nat → Value → Fm
  | some d, v => upd F d v
  | none, _ => F
def over (W : List Nat) (G F : Fm) : Fm
  | some i => cond (memN i W) (G (some i)) (F (some i))
  | none => F none
def rv (n : Nat) (F : Fm) : Operand → Value
  | .tmp t => cond (Nat.ble (t + 1) n) (F (some t)) undef
  | .const v => v
  | .global g => .pointer (some ⟨g, 0, none⟩)
  | .func f => .func (.func f) #[] #[]
def marksV : Value → List Deferred
  | .tuple vs => vs.toList.map fun
    | .pointer (some a) => { target := .collected a.block, args := #[] }
    | _ => { target := .collected 0, args := #[] }
  | _ => []
structure Fr (n : Nat) (a : Act) (F : Fm) : Prop where
  defers : a.defers = marksV (F none)
  size : a.tmps.size = n
  at' : ∀ t, t < n → a.tmps.getD t undef = F (some t)
theorem upd_same (F : Fm) (d : Nat) (v : Value) : upd F d v (some d) = v := by simp [upd]
theorem upd_ne (F : Fm) {d i : Nat} (v : Value) (h : i ≠ d) : upd F d v (some i) = F (some i) := by
  simp [upd, beq_ne h]
theorem updo_none (F : Fm) (d : Option Nat) (v : Value) : updo F d v none = F none := by cases d <;> rfl
theorem Fr.eval {n : Nat} {a : Act} {F : Fm} (h : Fr n a F) : a.eval = rv n F := by
  funext x
  cases x with
  | tmp t =>
    simp only [Act.eval, rv]
    by_cases ht : t < n
    · have : Nat.ble (t + 1) n = true := by rw [Nat.ble_eq]; exact ht
      rw [this, h.at' t ht]; rfl
    · have : Nat.ble (t + 1) n = false := by
        cases hb : Nat.ble (t + 1) n with
        | false => rfl
        | true => rw [Nat.ble_eq] at hb; exact absurd hb ht
      rw [this]
      have hs := h.size
      rw [cond_false, Array.getD, dif_neg]
      rw [hs]; exact ht
  | const v => rfl
  | global g => rfl
  | func f => rfl
theorem Fr.put {n : Nat} {a : Act} {F : Fm} (h : Fr n a F) (d : Option Nat) (v : Value) : Fr n (a.put d v) (updo F d v) := by
  cases d with
  | none => exact h
  | some d =>
    refine ⟨h.defers.trans (by rw [updo_none]), by simp [Act.put, h.size], fun t ht => ?_⟩
    have hs := h.size
    by_cases e : t = d
    · subst e
      rw [updo, upd_same]
      have ht' : t < a.tmps.size := by rw [hs]; exact ht
      rw [Act.put, Array.getD, dif_pos (by simpa using ht')]
      simp [Array.getInternal]
    · rw [updo, upd_ne F v e, ← h.at' t ht]
      have e' : d ≠ t := fun h => e h.symm
      have ht' : t < a.tmps.size := by rw [hs]; exact ht
      rw [Act.put, Array.getD, Array.getD, dif_pos (by simpa using ht'), dif_pos ht']
      show (a.tmps.setIfInBounds d v)[t]'(by simpa using ht') = a.tmps[t]
      rw [Array.getElem_setIfInBounds (by simpa using ht')]
      simp [e']
def lift (n : Nat) (w0 : World) (Q : Exit → Fm → List Res → Prop) : Exit → Act → World → Prop :=
  fun e a w => ∃ F L, Fr n a F ∧ Hp w0.heap.size w0 w L ∧ Q e F L
def liftN (n : Nat) (w0 : World) (K : Fm → List Res → Prop) : Exit → Act → World → Prop :=
  fun e a w => e = .normal ∧ ∃ F L, Fr n a F ∧ Hp w0.heap.size w0 w L ∧ K F L
section
variable (P : Program) (n : Nat) (w0 : World)
def OK (Q : Exit → Fm → List Res → Prop) (c : Code) (F : Fm) (L : List Res) : Prop :=
  ∀ w a, Fr n a F → Hp w0.heap.size w0 w L → c.wp P (lift n w0 Q) a w
inductive Md where
  | seq (Lw : List Res) | quiet | pure
def OKx (m : Md) (ops : Array Oper) (K : Fm → List Res → Prop) (rest : List Oper) (F : Fm) (L : List Res) : Prop :=
  match m with
  | .seq Lw => ∀ w a, Fr n a F → Hp w0.heap.size w0 w L → wpListC P ops (fun w => Hp w0.heap.size w0 w Lw) (liftN n w0 K) rest a w
  | .quiet => ∀ a, Fr n a F → wpQuiet P ops (fun w => Hp w0.heap.size w0 w L) (fun a' => ∃ F', Fr n a' F' ∧ K F' L) rest a
  | .pure => ∀ a, Fr n a F → wpPure P ops (fun w => Hp w0.heap.size w0 w L) (fun a' => ∃ F', Fr n a' F' ∧ K F' L) rest a
def Ent (w0 : World) (L L' : List Res) : Prop := ∀ w, Hp w0.heap.size w0 w L → Hp w0.heap.size w0 w L'
def Md.keeps (w0 : World) (L : List Res) : Md → Prop
  | .seq Lw => Ent w0 L Lw
  | _ => True
def Still (F : Fm) (L : List Res) (o : Op) (ty : TypeId) (v : Value) : Prop :=
  ∀ w, Hp w0.heap.size w0 w L → ∀ pos aft g d, (execOp (rv n F) ⟨d, o, ty, pos, aft, g⟩).run P w = .ok (.value v) w
end
section
variable {P : Program} {n : Nat} {w0 : World} {Q : Exit → Fm → List Res → Prop} {K : Fm → List Res → Prop} {F : Fm} {L : List Res} {m : Md} {ops : Array Oper} {rest : List Oper}
theorem wantedN {d : Option Nat} {o : Op} {ty : TypeId} {pos : String} {aft : Array Edge} {y : Nat → Option Bool} : Region.wanted (⟨d, o, ty, pos, aft, none⟩ : Oper) y = true := rfl
theorem wpListC.cls {C : World → Prop} {Q : Exit → Act → World → Prop} {l : List Oper} {a : Act} {w : World} (h : wpListC P ops C Q l a w) : C w := by
  cases l with
  | nil => exact h.1
  | cons o l => exact h.1
theorem OKx_nil (hk : m.keeps w0 L) (h : K F L) : OKx P n w0 m ops K [] F L := by
  cases m with
  | seq Lw => exact fun w a hf hp => ⟨hk w hp, rfl, F, L, hf, hp, h⟩
  | quiet => exact fun a hf => wpQuiet_nil ⟨F, hf, h⟩
  | pure => exact fun a hf => ⟨F, hf, h⟩
theorem OKx_still {d : Option Nat} {o : Op} {ty : TypeId} {pos : String} {aft : Array Edge} {v : Value} (hs : Still P n w0 F L o ty v) (h : OKx P n w0 m ops K rest (updo F d v) L) :
    OKx P n w0 m ops K (⟨d, o, ty, pos, aft, none⟩ :: rest) F L := by
  cases m with
  | seq Lw =>
    intro w a hf hp
    have h1 := h w _ (hf.put d v) hp
    refine ⟨h1.cls, ?_⟩
    rw [wantedN, if_pos rfl]
    unfold Oper.wp
    rw [hf.eval, hs w hp, Oper.upon_value]
    exact h1
  | quiet =>
    intro a hf
    unfold wpQuiet
    simp only [Region.wanted, if_true]
    refine ⟨v, fun w hp => ?_, h _ (hf.put d v)⟩
    unfold Oper.quietAt
    rw [hf.eval, hs w hp]
    exact ⟨rfl, rfl⟩
  | pure =>
    intro a hf
    unfold wpPure
    rw [wantedN, if_pos rfl]
    refine ⟨v, fun w hp => ?_, h _ (hf.put d v)⟩
    rw [hf.eval]
    exact hs w hp _ _ _ _
theorem Fr.yield {a : Act} (hf : Fr n a F) {j t : Nat} {b : Bool} (hj : (ops[j]?).bind (·.dst) = some t) (hb : rv n F (.tmp t) = .bool b) : yielded ops a.tmps j = some b := by
  unfold yielded
  rw [hj]
  have he : a.tmps.getD t undef = .bool b := by
    have := congrFun hf.eval (.tmp t)
    simp only [Act.eval] at this
    rw [this, hb]
  simp only [Option.bind_some]
  have ht : t < a.tmps.size := by
    rcases Nat.lt_or_ge t a.tmps.size with h | h
    · exact h
    · rw [Array.getD, dif_neg (by omega)] at he
      cases he
  rw [Array.getElem?_eq_getElem ht]
  rw [Array.getD, dif_pos ht] at he
  show (match some a.tmps[t] with | some (.bool b) => some b | _ => none) = some b
  have he' : a.tmps[t] = .bool b := he
  rw [he']
theorem OKx_guardT {d : Option Nat} {o : Op} {ty : TypeId} {pos : String} {aft : Array Edge} {j t : Nat} {b : Bool} (hj : (ops[j]?).bind (·.dst) = some t) (hb : rv n F (.tmp t) = .bool b)
    (h : OKx P n w0 m ops K (⟨d, o, ty, pos, aft, none⟩ :: rest) F L) : OKx P n w0 m ops K (⟨d, o, ty, pos, aft, some (j, b)⟩ :: rest) F L := by
  have key : ∀ a : Act, Fr n a F → Region.wanted (⟨d, o, ty, pos, aft, some (j, b)⟩ : Oper) (yielded ops a.tmps) = true := by
    intro a hf
    simp [Region.wanted, hf.yield hj hb]
  have key2 : ∀ a : Act, Region.wanted (⟨d, o, ty, pos, aft, none⟩ : Oper) (yielded ops a.tmps) = true := fun a => rfl
  cases m with
  | seq Lw =>
    intro w a hf hp
    have := h w a hf hp
    unfold wpListC at this ⊢
    rw [key a hf, if_pos rfl]
    rw [key2 a, if_pos rfl] at this
    exact this
  | quiet =>
    intro a hf
    have := h a hf
    unfold wpQuiet at this ⊢
    rw [key a hf, if_pos rfl]
    rw [key2 a, if_pos rfl] at this
    exact this
  | pure =>
    intro a hf
    have := h a hf
    unfold wpPure at this ⊢
    rw [key a hf, if_pos rfl]
    rw [key2 a, if_pos rfl] at this
    exact this
theorem OKx_guardF {d : Option Nat} {o : Op} {ty : TypeId} {pos : String} {aft : Array Edge} {j t : Nat} {b : Bool} (hj : (ops[j]?).bind (·.dst) = some t) (hb : rv n F (.tmp t) = .bool !b)
    (h : OKx P n w0 m ops K rest (updo F d undef) L) : OKx P n w0 m ops K (⟨d, o, ty, pos, aft, some (j, b)⟩ :: rest) F L := by
  have key : ∀ a : Act, Fr n a F → Region.wanted (⟨d, o, ty, pos, aft, some (j, b)⟩ : Oper) (yielded ops a.tmps) = false := by
    intro a hf
    simp only [Region.wanted, hf.yield hj hb]
    cases b <;> rfl
  cases m with
  | seq Lw =>
    intro w a hf hp
    have h1 := h w _ (hf.put d undef) hp
    refine ⟨h1.cls, ?_⟩
    rw [key a hf]
    exact h1
  | quiet =>
    intro a hf
    unfold wpQuiet
    rw [key a hf]
    exact h _ (hf.put d undef)
  | pure =>
    intro a hf
    unfold wpPure
    rw [key a hf]
    exact h _ (hf.put d undef)
theorem OKx_actW {d : Option Nat} {o : Op} {ty : TypeId} {pos : String} {aft : Array Edge} {Lw : List Res} (hk : Ent w0 L Lw)
    (h : ∀ w a, Fr n a F → Hp w0.heap.size w0 w L → Oper.wp P ⟨d, o, ty, pos, aft, none⟩ a w (wpListC P ops (fun w => Hp w0.heap.size w0 w Lw) (liftN n w0 K) rest) (liftN n w0 K)) :
    OKx P n w0 (.seq Lw) ops K (⟨d, o, ty, pos, aft, none⟩ :: rest) F L := by
  intro w a hf hp
  refine ⟨hk w hp, ?_⟩
  rw [wantedN, if_pos rfl]
  exact h w a hf hp
theorem OKx_act {d : Option Nat} {o : Op} {ty : TypeId} {pos : String} {aft : Array Edge} {Lw : List Res} (hk : Ent w0 L Lw)
    (h : ∀ w, Hp w0.heap.size w0 w L → ∃ v w' L', (execOp (rv n F) ⟨d, o, ty, pos, aft, none⟩).run P w = .ok (.value v) w' ∧ Hp w0.heap.size w0 w' L' ∧ OKx P n w0 (.seq Lw) ops K rest (updo F d v) L') :
    OKx P n w0 (.seq Lw) ops K (⟨d, o, ty, pos, aft, none⟩ :: rest) F L := by
  refine OKx_actW hk fun w a hf hp => ?_
  obtain ⟨v, w', L', hrun, hp', hk⟩ := h w hp
  unfold Oper.wp
  rw [hf.eval, hrun, Oper.upon_value]
  exact hk w' _ (hf.put d v) hp'
theorem OKx_act0 {d : Option Nat} {o : Op} {ty : TypeId} {pos : String} {aft : Array Edge} {Lw : List Res} (hk : Ent w0 L Lw)
    (h : ∀ w, Hp w0.heap.size w0 w L → ∃ w' L', (execOp (rv n F) ⟨d, o, ty, pos, aft, none⟩).run P w = .ok .skip w' ∧ Hp w0.heap.size w0 w' L' ∧ OKx P n w0 (.seq Lw) ops K rest (updo F d undef) L') :
    OKx P n w0 (.seq Lw) ops K (⟨d, o, ty, pos, aft, none⟩ :: rest) F L := by
  refine OKx_actW hk fun w a hf hp => ?_
  obtain ⟨w', L', hrun, hp', hk⟩ := h w hp
  unfold Oper.wp
  rw [hf.eval, hrun, Oper.upon_skip]
  exact hk w' _ (hf.put d undef) hp'
theorem wp_anyQ {o : Oper} {a : Act} {w : World} {K : Act → World → Prop} {Q Q' : Exit → Act → World → Prop} (hp : ∀ c a w, ¬ Q (.panic c) a w) (ho : ¬ LetsOut Q) (h : o.wp P a w K Q) : o.wp P a w K Q' := by
  unfold Oper.wp at h ⊢
  generalize (execOp a.eval o).run P w = r at *
  cases r with
  | ok nx w' =>
    cases nx with
    | value v => exact h
    | skip => exact h
    | defer d => exact h
    | enter f args =>
      refine Calls.mono h fun e w'' h => ?_
      cases e with
      | returned v => exact h
      | panicked c => exact absurd h (hp _ _ _)
      | outgrown => exact absurd h ho
    | row r args => exact h
    | _ => exact h.elim
  | halt x w' =>
    cases x with
    | panic v => exact absurd h (hp _ _ _)
    | _ => exact h.elim
theorem wp_of_list {o : Oper} {a : Act} {w : World} {K : Act → World → Prop} {Q : Exit → Act → World → Prop} (hg : o.guard = none) (h : wpList P ops (fun e a w => e = .normal ∧ K a w) [o] a w) : o.wp P a w K Q := by
  have hno : ¬ LetsOut (fun (e : Exit) (a : Act) (w : World) => e = .normal ∧ K a w) := by
    rintro ⟨a, w, h, _⟩
    cases h
  unfold wpList at h
  rw [if_pos (by simp [Region.wanted, hg])] at h
  rcases h with h | ⟨_, h⟩
  · exact wp_anyQ (fun c a w h => by cases h.1) hno (Oper.wp_mono (fun a w h => h.2) h)
  · exact absurd h hno
theorem wpList_of_C {C : World → Prop} {Q : Exit → Act → World → Prop} : ∀ (l : List Oper) (a : Act) (w : World), wpListC P ops C Q l a w → wpList P ops Q l a w
  | [], _, _, h => h.2
  | o :: l, a, w, h => by
    obtain ⟨_, h⟩ := h
    unfold wpList
    split
    · rename_i hw
      rw [if_pos hw] at h
      exact .inl (Oper.wp_mono (fun a w h => wpList_of_C l a w h) h)
    · rename_i hw
      rw [if_neg hw] at h
      exact wpList_of_C l _ w h
theorem Ent.refl (w0 : World) (L : List Res) : Ent w0 L L := fun _ h => h
theorem Ent.sub {L' : List Res} (h : L'.Sublist L) : Ent w0 L L' := fun _ hp => hp.sub h
theorem Ent.nil : Ent w0 L [] := fun _ hp => hp.none
def nodupB : List Nat → Bool
  | [] => true
  | i :: is => cond (memN i is) false (nodupB is)
def pickL (L : List Res) (is : List Nat) : List Res := is.filterMap fun i => L[i]?
theorem Hp.apart {B : Nat} {w : World} (h : Hp B w0 w L) {i j : Nat} (hij : i ≠ j) {r s : Res} (hi : L[i]? = some r) (hj : L[j]? = some s) : r.blk = .none ∨ r.blk ≠ s.blk := by
  obtain ⟨hil, hie⟩ := List.getElem?_eq_some_iff.1 hi
  obtain ⟨hjl, hje⟩ := List.getElem?_eq_some_iff.1 hj
  have hp := List.pairwise_iff_getElem.1 h.dj
  rcases Nat.lt_or_ge i j with hlt | hge
  · have := hp i j hil hjl hlt
    rw [hie, hje] at this
    exact this
  · have := hp j i hjl hil (by omega)
    rw [hie, hje] at this
    by_cases hn : r.blk = .none
    · exact .inl hn
    · rcases this with h1 | h1
      · right; rw [h1]; exact hn
      · right; exact fun e => h1 e.symm
theorem Hp.pick {B : Nat} {w : World} (h : Hp B w0 w L) : ∀ is : List Nat, nodupB is = true → Hp B w0 w (pickL L is)
  | [], _ => h.none
  | i :: is, hn => by
    have hm : memN i is = false := by
      cases hb : memN i is with
      | false => rfl
      | true => simp [nodupB, hb] at hn
    have hn' : nodupB is = true := by simpa [nodupB, hm] using hn
    have ih := h.pick is hn'
    unfold pickL
    rw [List.filterMap_cons]
    cases hi : L[i]? with
    | none => exact ih
    | some r =>
      refine ih.cons (h.ok r (List.mem_of_getElem? hi)) fun s hs => ?_
      obtain ⟨j, hj, hjs⟩ := List.mem_filterMap.1 hs
      have hij : i ≠ j := by
        rintro rfl
        have := (memN_iff i is).2 hj
        rw [hm] at this; cases this
      exact h.apart hij hi hjs
theorem Ent.pick (is : List Nat) (hn : nodupB is = true) : Ent w0 L (pickL L is) := fun _ hp => hp.pick is hn
theorem Ent.trans {L1 L2 : List Res} (a : Ent w0 L L1) (b : Ent w0 L1 L2) : Ent w0 L L2 := fun w h => b w (a w h)
theorem Ent.subset {L' : List Res} (h : ∀ w, Hp w0.heap.size w0 w L → Hp w0.heap.size w0 w L') : Ent w0 L L' := h
theorem OKx_ent {L' Lw : List Res} (e : Ent w0 L L') (h : OKx P n w0 (.seq Lw) ops K rest F L') : OKx P n w0 (.seq Lw) ops K rest F L := fun w a hf hp => h w a hf (e w hp)
theorem OK_ent {c : Code} {L' : List Res} (e : Ent w0 L L') (h : OK P n w0 Q c F L') : OK P n w0 Q c F L := fun w a hf hp => h w a hf (e w hp)
class Keeps (w0 : World) (L Lw : List Res) : Prop where
  ent : Ent w0 L Lw
theorem Ent.cons {r : Res} {Lw : List Res} (h : Lw.Sublist L) : Ent w0 (r :: L) Lw := fun _ hp => hp.sub (h.cons r)
instance Keeps.nil : Keeps w0 L [] := ⟨Ent.nil⟩
class Subl (L Lw : List Res) : Prop where
  sub : Lw.Sublist L
instance Subl.nil : Subl L [] := ⟨List.nil_sublist L⟩
instance Subl.keep {r : Res} {Lw : List Res} [h : Subl L Lw] : Subl (r :: L) (r :: Lw) := ⟨h.sub.cons_cons r⟩
instance Subl.skip {r : Res} {Lw : List Res} [h : Subl L Lw] : Subl (r :: L) Lw := ⟨h.sub.cons r⟩
instance Keeps.subl {Lw : List Res} [h : Subl L Lw] : Keeps w0 L Lw := ⟨Ent.sub h.sub⟩
class KeepsM (w0 : World) (L : List Res) (m : Md) : Prop where
  ent : m.keeps w0 L
instance KeepsM.quiet : KeepsM w0 L .quiet := ⟨trivial⟩
instance KeepsM.pure : KeepsM w0 L .pure := ⟨trivial⟩
instance KeepsM.seq {Lw : List Res} [h : Keeps w0 L Lw] : KeepsM w0 L (.seq Lw) := ⟨h.ent⟩
theorem OKx_nilK [hk : KeepsM w0 L m] (h : K F L) : OKx P n w0 m ops K [] F L := OKx_nil hk.ent h
def thenQ (K : Fm → List Res → Prop) (Q : Exit → Fm → List Res → Prop) : Exit → Fm → List Res → Prop
  | .normal, F, L => K F L
  | e, F, L => Q e F L
def blockQ (id : Nat) (Q : Exit → Fm → List Res → Prop) : Exit → Fm → List Res → Prop
  | .exit id', F, L => cond (Nat.beq id' id) (Q .normal F L) (Q (.exit id') F L)
  | e, F, L => Q e F L
theorem OK_mono {c : Code} {Q' : Exit → Fm → List Res → Prop} (h : OK P n w0 Q c F L) (hq : ∀ e F L, Q e F L → Q' e F L) : OK P n w0 Q' c F L :=
  fun w a hf hp => wp_mono (h w a hf hp) fun e a w ⟨F, L, h1, h2, h3⟩ => ⟨F, L, h1, h2, hq _ _ _ h3⟩
theorem OK_seq {a b : Code} (h : OK P n w0 (thenQ (fun F L => OK P n w0 Q b F L) Q) a F L) : OK P n w0 Q (.seq a b) F L := by
  intro w ac hf hp
  refine wp_seq (wp_mono (h w ac hf hp) ?_)
  rintro e a' w' ⟨F', L', h1, h2, h3⟩
  cases e with
  | normal => exact h3 w' a' h1 h2
  | _ => exact ⟨F', L', h1, h2, h3⟩
theorem OK_skip (h : Q .normal F L) : OK P n w0 Q .skip F L := fun _ _ hf hp => wp_skip ⟨F, L, hf, hp, h⟩
theorem OK_exit {id : Nat} (h : Q (.exit id) F L) : OK P n w0 Q (.exit id) F L := fun _ _ hf hp => wp_exit ⟨F, L, hf, hp, h⟩
theorem OK_ret (h : Q .ret F L) : OK P n w0 Q .ret F L := fun _ _ hf hp => wp_ret ⟨F, L, hf, hp, h⟩
theorem OK_condT {c : Operand} {x y : Code} (hc : rv n F c = .bool true) (h : OK P n w0 Q x F L) : OK P n w0 Q (.cond c x y) F L :=
  fun w a hf hp => wp_cond_true (by rw [hf.eval, hc]) (h w a hf hp)
theorem OK_condF {c : Operand} {x y : Code} (hc : rv n F c = .bool false) (h : OK P n w0 Q y F L) : OK P n w0 Q (.cond c x y) F L :=
  fun w a hf hp => wp_cond_false (by rw [hf.eval, hc]) (h w a hf hp)
theorem OK_block {id : Nat} {c : Code} (h : OK P n w0 (blockQ id Q) c F L) : OK P n w0 Q (.block id c) F L := by
  intro w ac hf hp
  refine wp_block (wp_mono (h w ac hf hp) ?_)
  rintro e a' w' ⟨F', L', h1, h2, h3⟩
  cases e with
  | exit id' =>
    simp only [blockQ] at h3
    simp only [Exit.inBlock]
    by_cases he : id' = id
    · subst he
      rw [if_pos rfl]
      simp only [Nat.beq_refl, cond_true] at h3
      exact ⟨F', L', h1, h2, h3⟩
    · rw [if_neg he]
      have : Nat.beq id' id = false := beq_ne he
      rw [this] at h3
      exact ⟨F', L', h1, h2, h3⟩
  | _ => exact ⟨F', L', h1, h2, h3⟩
theorem OK_region {id : Nat} {l : List Oper} (h : OKx P n w0 (.seq []) l.toArray (Q .normal) l F L) : OK P n w0 Q (.region id l.toArray false) F L := by
  intro w a hf hp
  refine wp_mono (wp_region_lit (wpList_of_C l a w (h w a hf hp))) ?_
  rintro e a' w' ⟨rfl, F', L', h1, h2, h3⟩
  exact ⟨F', L', h1, h2, h3⟩
theorem OK_quiet {id : Nat} {l : List Oper} (hm : P.follows .mixedOrders = true) (hB : Region.lexB .any l.toArray = true) (h : OKx P n w0 .quiet l.toArray (Q .normal) l F L) : OK P n w0 Q (.region id l.toArray true) F L := by
  intro w a hf hp
  refine wp_region_quiet (C := fun w => Hp w0.heap.size w0 w L) hm hB hp.drew ?_
  have h1 := h a hf
  have mono : ∀ (l' : List Oper) (a : Act), wpQuiet P l.toArray (fun w => Hp w0.heap.size w0 w L) (fun a' => ∃ F', Fr n a' F' ∧ Q .normal F' L) l' a →
      wpQuiet P l.toArray (fun w => Hp w0.heap.size w0 w L) (fun a' => ∀ w', Hp w0.heap.size w0 w' L → lift n w0 Q .normal a' w') l' a := by
    intro l'
    induction l' with
    | nil => rintro a ⟨F', h1, h2⟩ w' hw'; exact ⟨F', L, h1, hw', h2⟩
    | cons o l' ih =>
      intro a h
      unfold wpQuiet at h ⊢
      split
      · rename_i hw
        rw [if_pos hw] at h
        exact Oper.quiet_mono (fun a h => ih a h) h
      · rename_i hw
        rw [if_neg hw] at h
        exact ih _ h
  exact mono l a h1
def nthO : List Oper → Nat → List Oper
  | [], _ => []
  | o :: _, 0 => [o]
  | _ :: l, k + 1 => nthO l k
def pickO (l : List Oper) : List Nat → List Oper
  | [] => []
  | i :: is => nthO l i ++ pickO l is
theorem nthO_at : ∀ (l : List Oper) (i : Nat) (h : i < l.length), nthO l i = [l[i]]
  | o :: l, 0, h => rfl
  | o :: l, k + 1, h => nthO_at l k (by simpa using h)
theorem pickO_at (l : List Oper) : ∀ is : List Nat, (is.all fun i => Nat.ble (i + 1) l.length) = true → is.map (fun t => l.toArray[t]?) = (pickO l is).map some
  | [], _ => rfl
  | i :: is, h => by
    simp only [List.all_cons, Bool.and_eq_true, Nat.ble_eq] at h
    simp only [List.map_cons, pickO, nthO_at l i h.1, List.cons_append, List.nil_append, pickO_at l is h.2]
    simp [show i < l.length from h.1]
theorem OK_mix (A B A' T : List Nat) (Lw : List Res) {id : Nat} {l la lb la' lt : List Oper} (hm : P.follows .mixedOrders = true) (hB : mixB l.toArray A B A' T = true) (hI : ((A ++ (B ++ (A' ++ T))).all fun i => Nat.ble (i + 1) l.length) = true) (e : Ent w0 L Lw) (hA : pickO l A = la) (hB' : pickO l B = lb) (hA' : pickO l A' = la') (hT : pickO l T = lt)
    (h : OKx P n w0 .pure l.toArray (fun F1 _ => OKx P n w0 .pure l.toArray (fun F2 _ => OKx P n w0 .pure l.toArray (fun F3 _ => OKx P n w0 (.seq Lw) l.toArray (Q .normal) lt F3 L) la' F2 Lw) lb F1 L) la F Lw) : OK P n w0 Q (.region id l.toArray true) F L := by
  subst hA hB' hA' hT
  intro w a hf hp
  simp only [List.all_append, Bool.and_eq_true] at hI
  have key := wp_region_mix (id := id) (P := P) (ops := l.toArray) (a := a) (w := w) (Q := liftN n w0 (Q .normal)) (C := fun w => Hp w0.heap.size w0 w L) (Cw := fun w => Hp w0.heap.size w0 w Lw) A B A' T _ _ _ _ hm hB (pickO_at l A hI.1) (pickO_at l B hI.2.1) (pickO_at l A' hI.2.2.1) (pickO_at l T hI.2.2.2)
    (fun c a w h => by cases h.1) hp.drew (e _ hp.drew) ?_
  · refine wp_mono key ?_
    rintro e a' w' ⟨rfl, F', L', h1, h2, h3⟩
    exact ⟨F', L', h1, h2, h3⟩
  · have mono : ∀ {C : World → Prop} {Q1 Q2 : Act → Prop} (hq : ∀ a, Q1 a → Q2 a) (l' : List Oper) (a : Act), wpPure P l.toArray C Q1 l' a → wpPure P l.toArray C Q2 l' a := by
      intro C Q1 Q2 hq l'
      induction l' with
      | nil => intro a h; exact hq _ h
      | cons o l' ih =>
        intro a h
        unfold wpPure at h ⊢
        split
        · rename_i hw
          rw [if_pos hw] at h
          obtain ⟨v, h1, h2⟩ := h
          exact ⟨v, h1, ih _ h2⟩
        · rename_i hw
          rw [if_neg hw] at h
          exact ih _ h
    refine mono ?_ _ a (h a hf)
    rintro a1 ⟨F1, hf1, h⟩
    refine mono ?_ _ a1 (h a1 hf1)
    rintro a2 ⟨F2, hf2, h⟩
    refine mono ?_ _ a2 (h a2 hf2)
    rintro a3 ⟨F3, hf3, h⟩
    exact h _ a3 hf3 hp.drew
theorem thenQ_n (h : K F L) : thenQ K Q .normal F L := h
theorem thenQ_e {i : Nat} (h : Q (.exit i) F L) : thenQ K Q (.exit i) F L := h
theorem thenQ_r (h : Q .ret F L) : thenQ K Q .ret F L := h
theorem blockQ_n {id : Nat} (h : Q .normal F L) : blockQ id Q .normal F L := h
theorem blockQ_r {id : Nat} (h : Q .ret F L) : blockQ id Q .ret F L := h
theorem blockQ_s {id : Nat} (h : Q .normal F L) : blockQ id Q (.exit id) F L := by simpa [blockQ] using h
theorem blockQ_e {i id : Nat} (hne : Nat.beq i id = false) (h : Q (.exit i) F L) : blockQ id Q (.exit i) F L := by simpa [blockQ, hne] using h
theorem OK_loop {body : Code} (I : Nat → Fm → List Res → Prop) (m0 : Nat) (h0 : I m0 F L)
    (hr : ∀ m F' L', I m F' L' → OK P n w0 (thenQ (fun F'' L'' => ∃ m', m' < m ∧ I m' F'' L'') Q) body F' L') : OK P n w0 Q (.loop body) F L := by
  have key : ∀ m F' L' w a, I m F' L' → Fr n a F' → Hp w0.heap.size w0 w L' → ∀ (b : Frame) (k : List Item) (cs : List Frame),
      ∃ e a' w', lift n w0 Q e a' w' ∧ Arrives P (lone (b.at a (.code body :: .inLoop body :: k)) cs w) b k cs e a' w' := by
    intro m
    induction m using Nat.strongRecOn with
    | _ m ih =>
      intro F' L' w a hI hf hp b k cs
      obtain ⟨e, a₁, w₁, ⟨F₁, L₁, hf1, hp1, hq⟩, harr⟩ := hr m F' L' hI w a hf hp b (.inLoop body :: k) cs
      cases e with
      | normal =>
        obtain ⟨m', hlt, hI'⟩ := hq
        obtain ⟨e₂, a₂, w₂, hq₂, harr₂⟩ := ih m' hlt F₁ L₁ w₁ a₁ hI' hf1 hp1 b k cs
        exact ⟨e₂, a₂, w₂, hq₂, .of_steps (Steps.trans harr (.one step_inLoop)) harr₂⟩
      | exit id => exact ⟨_, a₁, w₁, ⟨F₁, L₁, hf1, hp1, hq⟩, .pass (x := .inLoop body) rfl (fun _ _ => .inl (by simp)) harr⟩
      | goto l => exact ⟨_, a₁, w₁, ⟨F₁, L₁, hf1, hp1, hq⟩, .pass (x := .inLoop body) rfl (fun _ _ => .inl (by simp)) harr⟩
      | ret => exact ⟨_, a₁, w₁, ⟨F₁, L₁, hf1, hp1, hq⟩, .pass (x := .inLoop body) rfl (fun _ _ => .inl (by simp)) harr⟩
      | panic ch => exact ⟨_, a₁, w₁, ⟨F₁, L₁, hf1, hp1, hq⟩, .pass (x := .inLoop body) rfl (fun _ _ => .inl (by simp)) harr⟩
      | outgrown => exact ⟨_, a₁, w₁, ⟨F₁, L₁, hf1, hp1, hq⟩, .pass (x := .inLoop body) rfl (fun _ _ => .inl (by simp)) harr⟩
  intro w a hf hp b k cs
  obtain ⟨e, a', w', hq, harr⟩ := key m0 F L w a h0 hf hp b k cs
  exact ⟨e, a', w', hq, .of_steps (.one step_loop) harr⟩
def agree (W : List Nat) (F' F : Fm) : Prop := F' none = F none ∧ ∀ i, memN i W = false → F' (some i) = F (some i)
theorem agree_refl (W : List Nat) (F : Fm) : agree W F F := ⟨rfl, fun _ _ => rfl⟩
theorem agree_upd {W : List Nat} {F' F : Fm} {d : Nat} {v : Value} (h : memN d W = true) (ha : agree W F' F) : agree W (upd F' d v) F := by
  refine ⟨ha.1, fun i hi => ?_⟩
  have : i ≠ d := by rintro rfl; rw [h] at hi; cases hi
  rw [upd_ne _ _ this]
  exact ha.2 i hi
theorem agree_over {W : List Nat} {G F : Fm} : agree W (over W G F) F := by
  refine ⟨rfl, fun i hi => ?_⟩
  simp [over, hi]
theorem agree_over2 {W W' : List Nat} {G F' F : Fm} (h : (W'.all fun i => memN i W) = true) (ha : agree W F' F) : agree W (over W' G F') F := by
  refine ⟨ha.1, fun i hi => ?_⟩
  have : memN i W' = false := by
    cases hm : memN i W' with
    | false => rfl
    | true =>
      have := List.all_eq_true.1 h i ((memN_iff i W').1 hm)
      rw [this] at hi; cases hi
  simp only [over, this, cond_false]
  exact ha.2 i hi
theorem over_upd {W : List Nat} {F' F : Fm} (ha : agree W F' F) : F' = over W F' F := by
  funext i
  cases i with
  | none => exact ha.1
  | some i =>
    simp only [over]
    cases h : memN i W with
    | true => rfl
    | false => exact ha.2 i h
theorem upd_self (F : Fm) (d : Nat) : upd F d (F (some d)) = F := by
  funext i
  cases i with
  | none => rfl
  | some i =>
    by_cases h : i = d
    · subst h; rw [upd_same]
    · rw [upd_ne _ _ h]
theorem OK_loop1 (s1 : Nat) (W : List Nat) {body : Code} (R : Nat → Value → List Res → Prop) (m0 : Nat) (L1 : List Res) (e : Ent w0 L L1) (h0 : R m0 (F (some s1)) L1)
    (hr : ∀ m v1 L' G, R m v1 L' → OK P n w0 (thenQ (fun F'' L'' => agree W F'' F ∧ ∃ m' L1, m' < m ∧ Ent w0 L'' L1 ∧ R m' (F'' (some s1)) L1) Q) body (upd (over W G F) s1 v1) L') : OK P n w0 Q (.loop body) F L := by
  refine OK_loop (fun m F' L' => agree W F' F ∧ ∃ L1, Ent w0 L' L1 ∧ R m (F' (some s1)) L1) m0 ⟨agree_refl _ _, L1, e, h0⟩ ?_
  rintro m F' L' ⟨ha, L1, e, hR⟩
  have hk := hr m (F' (some s1)) L1 F' hR
  rw [← over_upd ha, upd_self] at hk
  exact OK_mono (OK_ent e hk) fun ex F'' L'' h => by
    cases ex with
    | normal => obtain ⟨h1, m', L2, h2, h3, h4⟩ := h; exact ⟨m', h2, h1, L2, h3, h4⟩
    | _ => exact h
theorem OK_loop2 (s1 s2 : Nat) (W : List Nat) {body : Code} (R : Nat → Value → Value → List Res → Prop) (m0 : Nat) (L1 : List Res) (e : Ent w0 L L1) (h0 : R m0 (F (some s1)) (F (some s2)) L1)
    (hr : ∀ m v1 v2 L' G, R m v1 v2 L' → OK P n w0 (thenQ (fun F'' L'' => agree W F'' F ∧ ∃ m' L1, m' < m ∧ Ent w0 L'' L1 ∧ R m' (F'' (some s1)) (F'' (some s2)) L1) Q) body (upd (upd (over W G F) s1 v1) s2 v2) L') : OK P n w0 Q (.loop body) F L := by
  refine OK_loop (fun m F' L' => agree W F' F ∧ ∃ L1, Ent w0 L' L1 ∧ R m (F' (some s1)) (F' (some s2)) L1) m0 ⟨agree_refl _ _, L1, e, h0⟩ ?_
  rintro m F' L' ⟨ha, L1, e, hR⟩
  have hk := hr m (F' (some s1)) (F' (some s2)) L1 F' hR
  rw [← over_upd ha, upd_self, upd_self] at hk
  exact OK_mono (OK_ent e hk) fun ex F'' L'' h => by
    cases ex with
    | normal => obtain ⟨h1, m', L2, h2, h3, h4⟩ := h; exact ⟨m', h2, h1, L2, h3, h4⟩
    | _ => exact h
theorem OK_loop3 (s1 s2 s3 : Nat) (W : List Nat) {body : Code} (R : Nat → Value → Value → Value → List Res → Prop) (m0 : Nat) (L1 : List Res) (e : Ent w0 L L1) (h0 : R m0 (F (some s1)) (F (some s2)) (F (some s3)) L1)
    (hr : ∀ m v1 v2 v3 L' G, R m v1 v2 v3 L' → OK P n w0 (thenQ (fun F'' L'' => agree W F'' F ∧ ∃ m' L1, m' < m ∧ Ent w0 L'' L1 ∧ R m' (F'' (some s1)) (F'' (some s2)) (F'' (some s3)) L1) Q) body (upd (upd (upd (over W G F) s1 v1) s2 v2) s3 v3) L') : OK P n w0 Q (.loop body) F L := by
  refine OK_loop (fun m F' L' => agree W F' F ∧ ∃ L1, Ent w0 L' L1 ∧ R m (F' (some s1)) (F' (some s2)) (F' (some s3)) L1) m0 ⟨agree_refl _ _, L1, e, h0⟩ ?_
  rintro m F' L' ⟨ha, L1, e, hR⟩
  have hk := hr m (F' (some s1)) (F' (some s2)) (F' (some s3)) L1 F' hR
  rw [← over_upd ha, upd_self, upd_self, upd_self] at hk
  exact OK_mono (OK_ent e hk) fun ex F'' L'' h => by
    cases ex with
    | normal => obtain ⟨h1, m', L2, h2, h3, h4⟩ := h; exact ⟨m', h2, h1, L2, h3, h4⟩
    | _ => exact h
def Ret (w : World) (R : Value → List Res → Prop) (e : Ending) (w' : World) : Prop := ∃ v L', e = .returned v ∧ Hp w.heap.size w w' L' ∧ R v L'
def Enters' (P : Program) (f : FuncId) : Prop := ∃ fn c, P.funcs[f]? = some fn ∧ (fn.name == "runtime.NumGoroutine") = false ∧ fn.body = some c
theorem Enters'.run {f : FuncId} (h : Enters' P f) (args : Array Value) (w : World) : (callFunc f args).run P w = .ok (.enter f args) w := by
  obtain ⟨fn, c, hf, hn, hb⟩ := h
  have hn' : ¬ fn.name = "runtime.NumGoroutine" := by simpa using hn
  simp [callFunc, hf, hn', hb, Sem.run_bind, program, Sem.run, Result.andThen]
structure SatL (P : Program) (f : FuncId) (args : List Value) (w0 : World) (L : List Res) (R : Value → List Res → Prop) : Prop where
  enters : Enters' P f
  calls : ∀ w, Hp w0.heap.size w0 w L → Calls P f args.toArray w fun e w' => ∃ v L', e = .returned v ∧ Hp w0.heap.size w0 w' L' ∧ R v L'
abbrev Sat (P : Program) (f : FuncId) (args : List Value) (w : World) (R : Value → List Res → Prop) : Prop := SatL P f args w [] R
theorem SatL.mono {f : FuncId} {args : List Value} {R R' : Value → List Res → Prop} (h : SatL P f args w0 L R) (hr : ∀ v L, R v L → R' v L) : SatL P f args w0 L R' :=
  ⟨h.enters, fun w hp => (h.calls w hp).mono fun e w' ⟨v, L', h1, h2, h3⟩ => ⟨v, L', h1, h2, hr _ _ h3⟩⟩
theorem SatL.pre {f : FuncId} {args : List Value} {R : Value → List Res → Prop} {L' : List Res} (e : Ent w0 L L') (h : SatL P f args w0 L' R) : SatL P f args w0 L R :=
  ⟨h.enters, fun w hp => h.calls w (e w hp)⟩
theorem Sat.lib {f : FuncId} {args : List Value} {w : World} {R : Value → List Res → Prop} (he : Enters' P f) (h : ∀ w1, Below w.heap.size w w1 → Calls P f args.toArray w1 (Ret w1 R)) : Sat P f args w R :=
  ⟨he, fun w1 hp => (h w1 hp.below).mono fun e w' ⟨v, L', h1, h2, h3⟩ => ⟨v, L', h1, by have := hp.call h2; rwa [List.append_nil] at this, h3⟩⟩
theorem Sat.at {f : FuncId} {args : List Value} {w : World} {R : Value → List Res → Prop} (h : Sat P f args w R) : Calls P f args.toArray w (Ret w R) := h.calls w (Hp.refl w)
def argF (args : List Value) : Fm
  | some i => args.getD i undef
  | none => undef
def resV (n : Nat) (F : Fm) : List Nat → Value
  | [t] => rv n F (.tmp t)
  | ts => .tuple (ts.map fun t => rv n F (.tmp t)).toArray
def bodyQ (n : Nat) (w0 : World) (ts : List Nat) (R : Value → List Res → Prop) : Exit → Fm → List Res → Prop
  | .normal, F, L => marksV (F none) = [] ∧ ∃ L', Ent w0 L L' ∧ R (resV n F ts) L'
  | .ret, F, L => marksV (F none) = [] ∧ ∃ L', Ent w0 L L' ∧ R (resV n F ts) L'
  | _, _, _ => False
theorem bodyQ_r1 {t1 : Nat} {R : Value → List Res → Prop} {v1 : Value} (h1 : rv n F (.tmp t1) = v1) (h : ∃ L', Ent w0 L L' ∧ R v1 L') (hm : marksV (F none) = [] := by exact rfl) : bodyQ n w0 [t1] R .ret F L := by subst h1; exact ⟨hm, h⟩
theorem bodyQ_r2 {t1 t2 : Nat} {R : Value → List Res → Prop} {v1 v2 : Value} (h1 : rv n F (.tmp t1) = v1) (h2 : rv n F (.tmp t2) = v2) (h : ∃ L', Ent w0 L L' ∧ R (.tuple #[v1, v2]) L') (hm : marksV (F none) = [] := by exact rfl) : bodyQ n w0 [t1, t2] R .ret F L := by subst h1; subst h2; exact ⟨hm, h⟩
theorem bodyQ_r3 {t1 t2 t3 : Nat} {R : Value → List Res → Prop} {v1 v2 v3 : Value} (h1 : rv n F (.tmp t1) = v1) (h2 : rv n F (.tmp t2) = v2) (h3 : rv n F (.tmp t3) = v3) (h : ∃ L', Ent w0 L L' ∧ R (.tuple #[v1, v2, v3]) L') (hm : marksV (F none) = [] := by exact rfl) : bodyQ n w0 [t1, t2, t3] R .ret F L := by subst h1; subst h2; subst h3; exact ⟨hm, h⟩
theorem bodyQ_r0 {R : Value → List Res → Prop} (h : ∃ L', Ent w0 L L' ∧ R (.tuple #[]) L') (hm : marksV (F none) = [] := by exact rfl) : bodyQ n w0 [] R .ret F L := ⟨hm, h⟩
theorem bodyQ_n0 {R : Value → List Res → Prop} (h : ∃ L', Ent w0 L L' ∧ R (.tuple #[]) L') (hm : marksV (F none) = [] := by exact rfl) : bodyQ n w0 [] R .normal F L := ⟨hm, h⟩
theorem results_resV {fn : Func} {ts : List Nat} (hres : fn.results = (ts.map ResultVar.tmp).toArray) (hl : Nat.ble ts.length 6 = true) {a : Act} {N : Nat} (hf : Fr N a F) (w : World) : (results fn a.tmps).run P w = .ok (resV N F ts) w := by
  have he : ∀ t, a.tmps.getD t undef = rv N F (.tmp t) := fun t => congrFun hf.eval (.tmp t)
  rw [Nat.ble_eq] at hl
  rcases ts with _ | ⟨t1, _ | ⟨t2, _ | ⟨t3, _ | ⟨t4, _ | ⟨t5, _ | ⟨t6, _ | ⟨t7, ts⟩⟩⟩⟩⟩⟩⟩
  case cons.cons.cons.cons.cons.cons.cons => simp at hl
  all_goals simp [results, hres, resV, he]
theorem SatL.of {f : FuncId} {fn : Func} {c : Code} {args : List Value} {R : Value → List Res → Prop} (N : Nat) (ts : List Nat) (hf : P.funcs[f]? = some fn) (hN : fn.ntmps = N) (hnm : (fn.name == "runtime.NumGoroutine") = false) (hb : fn.body = some c)
    (hres : fn.results = (ts.map ResultVar.tmp).toArray) (hrl : Nat.ble ts.length 6 = true) (hlen : Nat.ble args.length N = true) (h : OK P N w0 (bodyQ N w0 ts R) c (argF args) L) : SatL P f args w0 L R := by
  refine ⟨⟨fn, c, hf, hnm, hb⟩, fun w hp => ?_⟩
  refine calls_of_wp hf hb ?_
  subst hN
  have hlen' : args.length ≤ fn.ntmps := by rwa [Nat.ble_eq] at hlen
  have hfr : Fr fn.ntmps { tmps := args.toArray ++ Array.replicate (fn.ntmps - args.toArray.size) undef, defers := [] } (argF args) := by
    refine ⟨rfl, by simp; omega, fun t ht => ?_⟩
    simp only [Array.getD_eq_getD_getElem?, argF, List.getD_eq_getElem?_getD]
    by_cases h : t < args.length
    · rw [Array.getElem?_append_left (by simpa using h)]
      simp
    · rw [Array.getElem?_append_right (by simpa using Nat.le_of_not_lt h), List.getElem?_eq_none (by omega)]
      simp only [List.size_toArray, Array.getElem?_replicate]
      split <;> rfl
  refine wp_mono (h w _ hfr hp) ?_
  rintro e a' w' ⟨F', L', h1, h2, h3⟩
  cases e with
  | normal => obtain ⟨hm, L'', e, h3⟩ := h3; exact ⟨h1.defers.trans hm, _, results_resV hres hrl h1 w', _, L'', rfl, e _ h2, h3⟩
  | ret => obtain ⟨hm, L'', e, h3⟩ := h3; exact ⟨h1.defers.trans hm, _, results_resV hres hrl h1 w', _, L'', rfl, e _ h2, h3⟩
  | _ => exact h3.elim
theorem OKx.use {Lw : List Res} (h : OKx P n w0 (.seq Lw) ops K rest F L) : ∀ w a, Fr n a F → Hp w0.heap.size w0 w L → wpListC P ops (fun w => Hp w0.heap.size w0 w Lw) (liftN n w0 K) rest a w := h
theorem OK.use {c : Code} (h : OK P n w0 Q c F L) : ∀ w a, Fr n a F → Hp w0.heap.size w0 w L → c.wp P (lift n w0 Q) a w := h
theorem OKx.useQ (h : OKx P n w0 .quiet ops K rest F L) : ∀ a, Fr n a F → wpQuiet P ops (fun w => Hp w0.heap.size w0 w L) (fun a' => ∃ F', Fr n a' F' ∧ K F' L) rest a := h
theorem OKx.mkQ (h : ∀ a, Fr n a F → wpQuiet P ops (fun w => Hp w0.heap.size w0 w L) (fun a' => ∃ F', Fr n a' F' ∧ K F' L) rest a) : OKx P n w0 .quiet ops K rest F L := h
theorem Ent.mk {L' : List Res} (h : ∀ w, Hp w0.heap.size w0 w L → Hp w0.heap.size w0 w L') : Ent w0 L L' := h
theorem Ent.use {L' : List Res} (h : Ent w0 L L') : ∀ w, Hp w0.heap.size w0 w L → Hp w0.heap.size w0 w L' := h
end
attribute [irreducible] OK OKx thenQ blockQ bodyQ Ent
end Go.Proofs.Ytmclgfipdgmomaa
namespace Go.Proofs.Ytmclgfipdgmomaa
open Go.RowKit
theorem ret_bool {a b : Bool} (h : a = b) : Ending.returned (.bool a) = .returned (.bool b) := by rw [h]
theorem ret_int {k : IntKind} {a b : Int} (h : a = b) : Ending.returned (.int k a) = .returned (.int k b) := by rw [h]
def ints (xs : List Int) : List Value := xs.map (Value.int .i64)
def bools (xs : List Bool) : List Value := xs.map Value.bool
theorem ints_len (xs : List Int) : (ints xs).length = xs.length := by simp [ints]
theorem bools_len (xs : List Bool) : (bools xs).length = xs.length := by simp [bools]
theorem ints_get (xs : List Int) (k : Nat) (h : k < xs.length) : (ints xs)[k]? = some (.int .i64 (xs.getD k 0)) := by simp [ints, h]
theorem bools_get (xs : List Bool) (k : Nat) (h : k < xs.length) : (bools xs)[k]? = some (.bool (xs.getD k false)) := by simp [bools, h]
theorem ints_set (xs : List Int) (k : Nat) (x : Int) : (ints xs).set k (.int .i64 x) = ints (xs.set k x) := by simp [ints, List.map_set]
theorem bools_set (xs : List Bool) (k : Nat) (x : Bool) : (bools xs).set k (.bool x) = bools (xs.set k x) := by simp [bools, List.map_set]
theorem ints_snoc (xs : List Int) (x : Int) : ints xs ++ [.int .i64 x] = ints (xs ++ [x]) := by simp [ints]
def Ints (w : World) (v : Value) (xs : List Int) : Prop := Sl w v 1 xs.length (fun j => .int .i64 (xs.getD j 0))
def Bools (w : World) (v : Value) (xs : List Bool) : Prop := Sl w v 1 xs.length (fun j => .bool (xs.getD j false))
def Strs (w : World) (v : Value) (xs : List ByteArray) : Prop := Sl w v 1 xs.length (fun j => .string (xs.getD j ByteArray.empty)) ∧ ∀ s ∈ xs, s.size ≤ 140737488355328
def Tabs (w : World) (v : Value) (xs : List (List Int)) : Prop :=
  ∃ vs : List Value, Sl w v 1 xs.length (fun j => vs.getD j undef) ∧ vs.length = xs.length ∧ ∀ j, (h : j < xs.length) → Ints w (vs.getD j undef) xs[j]
structure Stem where
  names : List ByteArray
  ext : List Bool
  par : List (List Int)
def Stm (w : World) (v : Value) (s : Stem) : Prop := ∃ nv ev pv, v = .agg #[nv, ev, pv] ∧ Strs w nv s.names ∧ Bools w ev s.ext ∧ Tabs w pv s.par
section
variable {w w' : World} {v : Value}
theorem Ints.below {xs : List Int} (h : Ints w v xs) (hb : Below w.heap.size w w') : Ints w' v xs := Sl.below h hb
theorem Bools.below {xs : List Bool} (h : Bools w v xs) (hb : Below w.heap.size w w') : Bools w' v xs := Sl.below h hb
theorem Strs.below {xs : List ByteArray} (h : Strs w v xs) (hb : Below w.heap.size w w') : Strs w' v xs := ⟨Sl.below h.1 hb, h.2⟩
theorem Tabs.below {xs : List (List Int)} (h : Tabs w v xs) (hb : Below w.heap.size w w') : Tabs w' v xs := by
  obtain ⟨vs, h1, h2, h3⟩ := h
  exact ⟨vs, h1.below hb, h2, fun j hj => (h3 j hj).below hb⟩
theorem Stm.below {s : Stem} (h : Stm w v s) (hb : Below w.heap.size w w') : Stm w' v s := by
  obtain ⟨nv, ev, pv, hv, h1, h2, h3⟩ := h
  exact ⟨nv, ev, pv, hv, h1.below hb, h2.below hb, h3.below hb⟩
theorem Sl.shape {sz n : Nat} {f : Nat → Value} (h : Sl w v sz n f) : ∃ a cap, v = .slice a n cap ∧ n ≤ 140737488355328 ∧ ∀ j, j < n * sz → ∃ b off, a = some ⟨b, off, none⟩ ∧ w.cell? ⟨b, off + j, none⟩ = some (f j) := by
  obtain ⟨hl, ⟨a, cap, hv, hc⟩, _⟩ := h
  refine ⟨a, cap, hv, hl, fun j hj => ?_⟩
  rcases hc with h0 | ⟨b, off, ha, hc⟩
  · rw [h0, Nat.zero_mul] at hj; omega
  · exact ⟨b, off, ha, hc j hj⟩
theorem Ints.at {xs : List Int} (h : Ints w v xs) : ∃ a cap, v = .slice a xs.length cap ∧ xs.length ≤ 140737488355328 ∧ ∀ j, (hj : j < xs.length) → ∃ b off, a = some ⟨b, off, none⟩ ∧ w.cell? ⟨b, off + j, none⟩ = some (.int .i64 xs[j]) := by
  obtain ⟨a, cap, hv, hl, hc⟩ := Sl.shape h
  refine ⟨a, cap, hv, hl, fun j hj => ?_⟩
  obtain ⟨b, off, ha, hc⟩ := hc j (by omega)
  exact ⟨b, off, ha, by rw [hc]; simp [hj]⟩
theorem Bools.at {xs : List Bool} (h : Bools w v xs) : ∃ a cap, v = .slice a xs.length cap ∧ xs.length ≤ 140737488355328 ∧ ∀ j, (hj : j < xs.length) → ∃ b off, a = some ⟨b, off, none⟩ ∧ w.cell? ⟨b, off + j, none⟩ = some (.bool xs[j]) := by
  obtain ⟨a, cap, hv, hl, hc⟩ := Sl.shape h
  refine ⟨a, cap, hv, hl, fun j hj => ?_⟩
  obtain ⟨b, off, ha, hc⟩ := hc j (by omega)
  exact ⟨b, off, ha, by rw [hc]; simp [hj]⟩
theorem Strs.at {xs : List ByteArray} (h : Strs w v xs) : ∃ a cap, v = .slice a xs.length cap ∧ xs.length ≤ 140737488355328 ∧ ∀ j, (hj : j < xs.length) → xs[j].size ≤ 140737488355328 ∧ ∃ b off, a = some ⟨b, off, none⟩ ∧ w.cell? ⟨b, off + j, none⟩ = some (.string xs[j]) := by
  obtain ⟨a, cap, hv, hl, hc⟩ := Sl.shape h.1
  refine ⟨a, cap, hv, hl, fun j hj => ⟨h.2 _ (List.getElem_mem hj), ?_⟩⟩
  obtain ⟨b, off, ha, hc⟩ := hc j (by omega)
  exact ⟨b, off, ha, by rw [hc]; simp [hj]⟩
theorem Tabs.at {xs : List (List Int)} (h : Tabs w v xs) : ∃ a cap, v = .slice a xs.length cap ∧ xs.length ≤ 140737488355328 ∧ ∀ j, (hj : j < xs.length) → ∃ b off u, a = some ⟨b, off, none⟩ ∧ w.cell? ⟨b, off + j, none⟩ = some u ∧ Ints w u xs[j] := by
  obtain ⟨vs, h1, h2, h3⟩ := h
  obtain ⟨a, cap, hv, hl, hc⟩ := Sl.shape h1
  refine ⟨a, cap, hv, hl, fun j hj => ?_⟩
  obtain ⟨b, off, ha, hc⟩ := hc j (by omega)
  exact ⟨b, off, _, ha, hc, h3 j hj⟩
end
variable {B : Nat} {w0 w : World} {L : List Res}
theorem Hp.ints (h : Hp B w0 w L) (i : Nat) {e : TypeId} {n : Nat} {v : Value} {xs : List Int} (hi : L[i]? = some (.row e 1 v n (ints xs))) (hn : n ≤ 140737488355328) : Ints w v xs := by
  have hl : n = xs.length := by
    have ho : w.ownsRow B e 1 v n (Go.Proofs.Ytmclgfipdgmomaa.ints xs) := h.ok _ (List.mem_of_getElem? hi)
    have := ho.1
    rw [ints_len] at this
    omega
  subst hl
  exact h.sl i hi hn (fun j hj => ints_get xs j (by omega))
theorem Hp.bools (h : Hp B w0 w L) (i : Nat) {e : TypeId} {n : Nat} {v : Value} {xs : List Bool} (hi : L[i]? = some (.row e 1 v n (bools xs))) (hn : n ≤ 140737488355328) : Bools w v xs := by
  have hl : n = xs.length := by
    have ho : w.ownsRow B e 1 v n (Go.Proofs.Ytmclgfipdgmomaa.bools xs) := h.ok _ (List.mem_of_getElem? hi)
    have := ho.1
    rw [bools_len] at this
    omega
  subst hl
  exact h.sl i hi hn (fun j hj => bools_get xs j (by omega))
abbrev irow (v : Value) (xs : List Int) : Res := .row 3 1 v xs.length (Go.Proofs.Ytmclgfipdgmomaa.ints xs)
end Go.Proofs.Ytmclgfipdgmomaa
namespace Go.Proofs.Ytmclgfipdgmomaa
open Go.RowKit
theorem wrapI (n : Int) (h : -9223372036854775808 ≤ n ∧ n ≤ 9223372036854775807) : IntKind.i64.wrap n = n := by rw [IntKind.wrap_i64]; omega
theorem at0 {α : Type} {a : α} {l : List α} : (a :: l)[0]? = some a := rfl
theorem at1 {α : Type} {a b : α} {l : List α} : (a :: b :: l)[1]? = some b := rfl
theorem at2 {α : Type} {a b c : α} {l : List α} : (a :: b :: c :: l)[2]? = some c := rfl
theorem at3 {α : Type} {a b c d : α} {l : List α} : (a :: b :: c :: d :: l)[3]? = some d := rfl
theorem at4 {α : Type} {a b c d e : α} {l : List α} : (a :: b :: c :: d :: e :: l)[4]? = some e := rfl
theorem at5 {α : Type} {a b c d e f : α} {l : List α} : (a :: b :: c :: d :: e :: f :: l)[5]? = some f := rfl
theorem at6 {α : Type} {a b c d e f g : α} {l : List α} : (a :: b :: c :: d :: e :: f :: g :: l)[6]? = some g := rfl
theorem at7 {α : Type} {a b c d e f g h : α} {l : List α} : (a :: b :: c :: d :: e :: f :: g :: h :: l)[7]? = some h := rfl
class TOne (P : Program) (t : TypeId) (z : outParam Value) : Prop where
  agg : ∀ w, (isAgg t).run P w = .ok false w
  size : ∀ w, (sizeOf t).run P w = .ok 1 w
  zero : ∀ w, (zeroValue t).run P w = .ok z w
  cells : z.cells = #[z]
class TAgg (P : Program) (t : TypeId) (sz : outParam Nat) (zs : outParam (List Value)) : Prop where
  agg : ∀ w, (isAgg t).run P w = .ok true w
  size : ∀ w, (sizeOf t).run P w = .ok sz w
  zero : ∀ w, (zeroValue t).run P w = .ok (.agg zs.toArray) w
class TSlice (P : Program) (t : TypeId) (e sz bytes : outParam Nat) (z : outParam Value) : Prop where
  ty : SlTy P t e sz bytes z
def fldOf (P : Program) (s f : Nat) : Option (Nat × Nat) :=
  match P.underlying s with
  | some (.struct fs) => (fs[f]?).map fun fl => (fl.offset, fl.type)
  | _ => none
class TFld (P : Program) (s f : Nat) (off t : outParam Nat) : Prop where
  at0 : fldOf P s f = some (off, t)
  sz : (P.info? t).map (fun i => Nat.beq i.size 0) = some false
theorem TFld.at' {P : Program} {s f off t : Nat} (T : TFld P s f off t) : ∃ fs fl i, P.underlying s = some (.struct fs) ∧ fs[f]? = some fl ∧ fl.offset = off ∧ fl.type = t ∧ P.info? t = some i ∧ i.size ≠ 0 := by
  have h0 := T.at0
  unfold fldOf at h0
  split at h0
  · rename_i fs hu
    cases hf : fs[f]? with
    | none => rw [hf] at h0; cases h0
    | some fl =>
      rw [hf] at h0
      simp only [Option.map_some, Option.some.injEq, Prod.mk.injEq] at h0
      have h1 := T.sz
      cases hi : P.info? t with
      | none => rw [hi] at h1; cases h1
      | some i =>
        rw [hi] at h1
        simp only [Option.map_some, Option.some.injEq] at h1
        exact ⟨fs, fl, i, hu, hf, h0.1, h0.2, rfl, fun h => by rw [h] at h1; cases h1⟩
  · cases h0
class TStr (P : Program) (t : TypeId) : Prop where
  und : P.underlying t = some .string
theorem TSlice.und {P : Program} {t e sz bytes : Nat} {z : Value} (T : TSlice P t e sz bytes z) (w : World) : (underlying t).run P w = .ok (.slice e) w := by
  simp [underlying, program, Sem.run_bind, Sem.run, Result.andThen, T.ty.und, bind, Sem.bind]
theorem TSlice.size {P : Program} {t e sz bytes : Nat} {z : Value} (T : TSlice P t e sz bytes z) (w : World) : (sizeOf e).run P w = .ok sz w := by
  obtain ⟨i, hi, hz0, hz1, hz2⟩ := info_parts T.ty.inf
  simp [sizeOf, typeInfo, program, Sem.run_bind, Sem.run, hi, hz1, Result.andThen]
section
variable {P : Program} {n : Nat} {w0 : World} {Q : Exit → Fm → List Res → Prop} {K : Fm → List Res → Prop} {F : Fm} {L : List Res} {m : Md} {Lw : List Res} {ops : Array Oper} {rest : List Oper}
  {d : Option Nat} {ty : TypeId} {pos : String} {aft : Array Edge}
theorem St_move {x : Operand} {v : Value} (h : rv n F x = v) : Still P n w0 F L (.move x) ty v := fun w _ _ _ _ _ => by subst h; rfl
theorem St_assign {x : Operand} {v : Value} (h : rv n F x = v) : Still P n w0 F L (.assign x) ty v := fun w _ _ _ _ _ => by subst h; rfl
theorem OKx_move {x : Operand} {v : Value} (h : rv n F x = v) (k : OKx P n w0 m ops K rest (updo F d v) L) : OKx P n w0 m ops K (⟨d, .move x, ty, pos, aft, none⟩ :: rest) F L := OKx_still (St_move h) k
theorem OKx_assign {x : Operand} {v : Value} (h : rv n F x = v) (k : OKx P n w0 m ops K rest (updo F d v) L) : OKx P n w0 m ops K (⟨d, .assign x, ty, pos, aft, none⟩ :: rest) F L := OKx_still (St_assign h) k
theorem OKx_pickT {c x y : Operand} {v : Value} (hc : rv n F c = .bool true) (h : rv n F x = v) (k : OKx P n w0 m ops K rest (updo F d v) L) : OKx P n w0 m ops K (⟨d, .pick c x y, ty, pos, aft, none⟩ :: rest) F L :=
  OKx_still (fun w _ _ _ _ _ => by simp [execOp, hc, h, asBool]) k
theorem OKx_pickF {c x y : Operand} {v : Value} (hc : rv n F c = .bool false) (h : rv n F y = v) (k : OKx P n w0 m ops K rest (updo F d v) L) : OKx P n w0 m ops K (⟨d, .pick c x y, ty, pos, aft, none⟩ :: rest) F L :=
  OKx_still (fun w _ _ _ _ _ => by simp [execOp, hc, h, asBool]) k
theorem run_int (op : BinOp) (t : TypeId) (x y : Operand) (k : IntKind) (a b : Int) (hop : op ≠ .shl ∧ op ≠ .shr) (w : World) (ut : TypeId) (dd : Option Nat) (p : String) (af : Array Edge) (g : Option (Nat × Bool)) (ρ : Operand → Value) (hx : ρ x = .int k a) (hy : ρ y = .int k b)
    {v : Value} (hv : (match op with | .add | .sub | .mul => Op.intArith op k a b | .quo | .rem => Op.intDiv op k a b | .and | .or | .xor | .andNot => Op.intBits op k a b | _ => Op.intCmp op a b : Sem Value).run P w = .ok v w) :
    (execOp ρ ⟨dd, .binOp op t x y ut, ty, p, af, g⟩).run P w = .ok (.value v) w := by
  have h1 : (eqGuard op t x y (.int k a) (.int k b)).run P w = .ok () w := by
    unfold eqGuard
    cases op <;> rfl
  have h2 : (binOp op t (.int k a) (.int k b)).run P w = .ok v w := by
    rw [← hv]
    cases op <;> first | exact absurd rfl hop.1 | exact absurd rfl hop.2 | simp [binOp]
  simp [execOp, hx, hy, Sem.run_bind, h1, h2, Result.andThen]
theorem OKx_add {t ut : TypeId} {x y : Operand} {a b : Int} (hx : rv n F x = .int .i64 a) (hy : rv n F y = .int .i64 b) (h1 : -9223372036854775808 ≤ a + b) (h2 : a + b ≤ 9223372036854775807)
    (k : OKx P n w0 m ops K rest (updo F d (.int .i64 (a + b))) L) : OKx P n w0 m ops K (⟨d, .binOp .add t x y ut, ty, pos, aft, none⟩ :: rest) F L :=
  OKx_still (fun w _ _ _ _ _ => run_int .add t x y .i64 a b (by decide) w ut _ _ _ _ _ hx hy (by simp [Op.intArith, wrapI _ ⟨h1, h2⟩])) k
theorem OKx_addN {t ut : TypeId} {x y : Operand} {a b : Nat} (hx : rv n F x = .int .i64 (a : Int)) (hy : rv n F y = .int .i64 (b : Int)) (h2 : a + b ≤ 9223372036854775807)
    (k : OKx P n w0 m ops K rest (updo F d (.int .i64 ((a + b : Nat) : Int))) L) : OKx P n w0 m ops K (⟨d, .binOp .add t x y ut, ty, pos, aft, none⟩ :: rest) F L := by
  refine OKx_add hx hy (by omega) (by omega) ?_
  rw [← Int.natCast_add]; exact k
theorem OKx_inc {t ut : TypeId} {x y : Operand} {a : Nat} (hx : rv n F x = .int .i64 (a : Int)) (hy : rv n F y = .int .i64 1) (h2 : a + 1 ≤ 9223372036854775807)
    (k : OKx P n w0 m ops K rest (updo F d (.int .i64 ((a + 1 : Nat) : Int))) L) : OKx P n w0 m ops K (⟨d, .binOp .add t x y ut, ty, pos, aft, none⟩ :: rest) F L := by
  refine OKx_add hx hy (by omega) (by omega) ?_
  rw [show (a : Int) + 1 = ((a + 1 : Nat) : Int) by omega]; exact k
theorem OKx_sub {t ut : TypeId} {x y : Operand} {a b : Int} (hx : rv n F x = .int .i64 a) (hy : rv n F y = .int .i64 b) (h1 : -9223372036854775808 ≤ a - b) (h2 : a - b ≤ 9223372036854775807)
    (k : OKx P n w0 m ops K rest (updo F d (.int .i64 (a - b))) L) : OKx P n w0 m ops K (⟨d, .binOp .sub t x y ut, ty, pos, aft, none⟩ :: rest) F L :=
  OKx_still (fun w _ _ _ _ _ => run_int .sub t x y .i64 a b (by decide) w ut _ _ _ _ _ hx hy (by simp [Op.intArith, wrapI _ ⟨h1, h2⟩])) k
theorem OKx_dec {t ut : TypeId} {x y : Operand} {a : Nat} (hx : rv n F x = .int .i64 (a : Int)) (hy : rv n F y = .int .i64 1) (h1 : 1 ≤ a) (h2 : a ≤ 9223372036854775807)
    (k : OKx P n w0 m ops K rest (updo F d (.int .i64 ((a - 1 : Nat) : Int))) L) : OKx P n w0 m ops K (⟨d, .binOp .sub t x y ut, ty, pos, aft, none⟩ :: rest) F L := by
  refine OKx_sub hx hy (by omega) (by omega) ?_
  rw [show (a : Int) - 1 = ((a - 1 : Nat) : Int) by omega]; exact k
theorem OKx_subN {t ut : TypeId} {x y : Operand} {a b : Nat} (hx : rv n F x = .int .i64 (a : Int)) (hy : rv n F y = .int .i64 (b : Int)) (h1 : b ≤ a) (h2 : a ≤ 9223372036854775807)
    (k : OKx P n w0 m ops K rest (updo F d (.int .i64 ((a - b : Nat) : Int))) L) : OKx P n w0 m ops K (⟨d, .binOp .sub t x y ut, ty, pos, aft, none⟩ :: rest) F L := by
  refine OKx_sub hx hy (by omega) (by omega) ?_
  rw [← Int.ofNat_sub h1]; exact k
theorem OKx_mul {t ut : TypeId} {x y : Operand} {a b : Int} (hx : rv n F x = .int .i64 a) (hy : rv n F y = .int .i64 b) (h1 : -9223372036854775808 ≤ a * b) (h2 : a * b ≤ 9223372036854775807)
    (k : OKx P n w0 m ops K rest (updo F d (.int .i64 (a * b))) L) : OKx P n w0 m ops K (⟨d, .binOp .mul t x y ut, ty, pos, aft, none⟩ :: rest) F L :=
  OKx_still (fun w _ _ _ _ _ => run_int .mul t x y .i64 a b (by decide) w ut _ _ _ _ _ hx hy (by simp [Op.intArith, wrapI _ ⟨h1, h2⟩])) k
theorem OKx_lss {t ut : TypeId} {x y : Operand} {k : IntKind} {a b : Int} (hx : rv n F x = .int k a) (hy : rv n F y = .int k b)
    (kT : a < b → OKx P n w0 m ops K rest (updo F d (.bool true)) L) (kF : b ≤ a → OKx P n w0 m ops K rest (updo F d (.bool false)) L) : OKx P n w0 m ops K (⟨d, .binOp .lss t x y ut, ty, pos, aft, none⟩ :: rest) F L := by
  by_cases h : a < b
  · exact OKx_still (fun w _ _ _ _ _ => run_int .lss t x y k a b (by decide) w ut _ _ _ _ _ hx hy (by simp [Op.intCmp, h])) (kT h)
  · exact OKx_still (fun w _ _ _ _ _ => run_int .lss t x y k a b (by decide) w ut _ _ _ _ _ hx hy (by simp [Op.intCmp]; omega)) (kF (by omega))
theorem OKx_leq {t ut : TypeId} {x y : Operand} {k : IntKind} {a b : Int} (hx : rv n F x = .int k a) (hy : rv n F y = .int k b)
    (kT : a ≤ b → OKx P n w0 m ops K rest (updo F d (.bool true)) L) (kF : b < a → OKx P n w0 m ops K rest (updo F d (.bool false)) L) : OKx P n w0 m ops K (⟨d, .binOp .leq t x y ut, ty, pos, aft, none⟩ :: rest) F L := by
  by_cases h : a ≤ b
  · exact OKx_still (fun w _ _ _ _ _ => run_int .leq t x y k a b (by decide) w ut _ _ _ _ _ hx hy (by simp [Op.intCmp, h])) (kT h)
  · exact OKx_still (fun w _ _ _ _ _ => run_int .leq t x y k a b (by decide) w ut _ _ _ _ _ hx hy (by simp [Op.intCmp]; omega)) (kF (by omega))
theorem OKx_gtr {t ut : TypeId} {x y : Operand} {k : IntKind} {a b : Int} (hx : rv n F x = .int k a) (hy : rv n F y = .int k b)
    (kT : b < a → OKx P n w0 m ops K rest (updo F d (.bool true)) L) (kF : a ≤ b → OKx P n w0 m ops K rest (updo F d (.bool false)) L) : OKx P n w0 m ops K (⟨d, .binOp .gtr t x y ut, ty, pos, aft, none⟩ :: rest) F L := by
  by_cases h : b < a
  · exact OKx_still (fun w _ _ _ _ _ => run_int .gtr t x y k a b (by decide) w ut _ _ _ _ _ hx hy (by simp [Op.intCmp, h])) (kT h)
  · exact OKx_still (fun w _ _ _ _ _ => run_int .gtr t x y k a b (by decide) w ut _ _ _ _ _ hx hy (by simp [Op.intCmp]; omega)) (kF (by omega))
theorem OKx_geq {t ut : TypeId} {x y : Operand} {k : IntKind} {a b : Int} (hx : rv n F x = .int k a) (hy : rv n F y = .int k b)
    (kT : b ≤ a → OKx P n w0 m ops K rest (updo F d (.bool true)) L) (kF : a < b → OKx P n w0 m ops K rest (updo F d (.bool false)) L) : OKx P n w0 m ops K (⟨d, .binOp .geq t x y ut, ty, pos, aft, none⟩ :: rest) F L := by
  by_cases h : b ≤ a
  · exact OKx_still (fun w _ _ _ _ _ => run_int .geq t x y k a b (by decide) w ut _ _ _ _ _ hx hy (by simp [Op.intCmp, h])) (kT h)
  · exact OKx_still (fun w _ _ _ _ _ => run_int .geq t x y k a b (by decide) w ut _ _ _ _ _ hx hy (by simp [Op.intCmp]; omega)) (kF (by omega))
theorem OKx_eql {t ut : TypeId} {x y : Operand} {k : IntKind} {a b : Int} (hx : rv n F x = .int k a) (hy : rv n F y = .int k b)
    (kT : a = b → OKx P n w0 m ops K rest (updo F d (.bool true)) L) (kF : a ≠ b → OKx P n w0 m ops K rest (updo F d (.bool false)) L) : OKx P n w0 m ops K (⟨d, .binOp .eql t x y ut, ty, pos, aft, none⟩ :: rest) F L := by
  by_cases h : a = b
  · exact OKx_still (fun w _ _ _ _ _ => run_int .eql t x y k a b (by decide) w ut _ _ _ _ _ hx hy (by simp [Op.intCmp, h])) (kT h)
  · exact OKx_still (fun w _ _ _ _ _ => run_int .eql t x y k a b (by decide) w ut _ _ _ _ _ hx hy (by simp [Op.intCmp, h])) (kF h)
theorem OKx_neq {t ut : TypeId} {x y : Operand} {k : IntKind} {a b : Int} (hx : rv n F x = .int k a) (hy : rv n F y = .int k b)
    (kT : a ≠ b → OKx P n w0 m ops K rest (updo F d (.bool true)) L) (kF : a = b → OKx P n w0 m ops K rest (updo F d (.bool false)) L) : OKx P n w0 m ops K (⟨d, .binOp .neq t x y ut, ty, pos, aft, none⟩ :: rest) F L := by
  by_cases h : a = b
  · exact OKx_still (fun w _ _ _ _ _ => run_int .neq t x y k a b (by decide) w ut _ _ _ _ _ hx hy (by simp [Op.intCmp, h])) (kF h)
  · exact OKx_still (fun w _ _ _ _ _ => run_int .neq t x y k a b (by decide) w ut _ _ _ _ _ hx hy (by simp [Op.intCmp, h])) (kT h)
theorem run_str (op : BinOp) (t : TypeId) (x y : Operand) (a b : ByteArray) (hop : op ≠ .shl ∧ op ≠ .shr) (w : World) (ut : TypeId) (dd : Option Nat) (p : String) (af : Array Edge) (g : Option (Nat × Bool)) (ρ : Operand → Value) (hx : ρ x = .string a) (hy : ρ y = .string b)
    {v : Value} (hv : (Op.stringOp op a b).run P w = .ok v w) :
    (execOp ρ ⟨dd, .binOp op t x y ut, ty, p, af, g⟩).run P w = .ok (.value v) w := by
  have h1 : (eqGuard op t x y (.string a) (.string b)).run P w = .ok () w := by
    unfold eqGuard
    cases op <;> rfl
  have h2 : (binOp op t (.string a) (.string b)).run P w = .ok v w := by
    rw [← hv]
    cases op <;> first | exact absurd rfl hop.1 | exact absurd rfl hop.2 | simp [binOp]
  simp [execOp, hx, hy, Sem.run_bind, h1, h2, Result.andThen]
theorem bytes_beq (a b : ByteArray) : (a.toList == b.toList) = true ↔ a = b := by
  rw [beq_iff_eq, ByteArray.toList_eq, ByteArray.toList_eq]
  exact ⟨fun h => Go.WideShapes.bytes_inj h, fun h => by rw [h]⟩
theorem bytes_bne (a b : ByteArray) (h : a ≠ b) : (a.toList == b.toList) = false := by
  cases he : (a.toList == b.toList) with
  | false => rfl
  | true => exact absurd ((bytes_beq a b).1 he) h
theorem OKx_sneq {t ut : TypeId} {x y : Operand} {a b : ByteArray} (hx : rv n F x = .string a) (hy : rv n F y = .string b)
    (kT : a ≠ b → OKx P n w0 m ops K rest (updo F d (.bool true)) L) (kF : a = b → OKx P n w0 m ops K rest (updo F d (.bool false)) L) : OKx P n w0 m ops K (⟨d, .binOp .neq t x y ut, ty, pos, aft, none⟩ :: rest) F L := by
  by_cases h : a = b
  · exact OKx_still (fun w _ _ _ _ _ => run_str .neq t x y a b (by decide) w ut _ _ _ _ _ hx hy (by simp [Op.stringOp, h])) (kF h)
  · exact OKx_still (fun w _ _ _ _ _ => run_str .neq t x y a b (by decide) w ut _ _ _ _ _ hx hy (by simp [Op.stringOp, bytes_bne a b h])) (kT h)
theorem OKx_notT {t : TypeId} {x : Operand} (hx : rv n F x = .bool true) (k : OKx P n w0 m ops K rest (updo F d (.bool false)) L) : OKx P n w0 m ops K (⟨d, .unOp .not t x, ty, pos, aft, none⟩ :: rest) F L :=
  OKx_still (fun w _ _ _ _ _ => by simp [execOp, hx, Op.unary]) k
theorem OKx_notF {t : TypeId} {x : Operand} (hx : rv n F x = .bool false) (k : OKx P n w0 m ops K rest (updo F d (.bool true)) L) : OKx P n w0 m ops K (⟨d, .unOp .not t x, ty, pos, aft, none⟩ :: rest) F L :=
  OKx_still (fun w _ _ _ _ _ => by simp [execOp, hx, Op.unary]) k
theorem OKx_max {x y : Operand} {tt : Array TypeId} {k : IntKind} {a b : Int} (hx : rv n F x = .int k a) (hy : rv n F y = .int k b)
    (kk : OKx P n w0 m ops K rest (updo F d (.int k (max a b))) L) : OKx P n w0 m ops K (⟨d, .call { callee := .builtin .max, args := #[x, y], argTypes := tt }, ty, pos, aft, none⟩ :: rest) F L := by
  refine OKx_still (fun w _ _ _ _ _ => ?_) kk
  have e : (if b > a then b else a) = max a b := by split <;> omega
  simp [execOp, resolve, invoke, builtin, hx, hy, Builtin.max_, Builtin.max2, e]
theorem OKx_extract {x : Operand} {i : Nat} {vs : Array Value} {v : Value} (hx : rv n F x = .tuple vs) (hi : vs[i]? = some v) (k : OKx P n w0 m ops K rest (updo F d v) L) : OKx P n w0 m ops K (⟨d, .extract x i, ty, pos, aft, none⟩ :: rest) F L :=
  OKx_still (fun w _ _ _ _ _ => by simp [execOp, hx, Instr.extract, hi]) k
theorem run_len {x : Operand} {t : TypeId} {e sz bytes : Nat} {z : Value} (T : TSlice P t e sz bytes z) {ρ : Operand → Value} {a : Option Addr} {N cap : Nat} (hx : ρ x = .slice a N cap) (w : World) (dd : Option Nat) (p : String) (af : Array Edge) (g : Option (Nat × Bool)) :
    (execOp ρ ⟨dd, .call { callee := .builtin .len, args := #[x], argTypes := #[t] }, ty, p, af, g⟩).run P w = .ok (.value (.int .i64 N)) w := by
  simp [execOp, resolve, invoke, builtin, hx, Builtin.len_, Sem.run_bind, T.und, Result.andThen, goInt]
theorem OKx_len {x : Operand} {t : TypeId} {e sz bytes : Nat} {z : Value} [T : TSlice P t e sz bytes z] {a : Option Addr} {N cap : Nat} (hx : rv n F x = .slice a N cap) (k : OKx P n w0 m ops K rest (updo F d (.int .i64 (N : Int))) L) :
    OKx P n w0 m ops K (⟨d, .call { callee := .builtin .len, args := #[x], argTypes := #[t] }, ty, pos, aft, none⟩ :: rest) F L :=
  OKx_still (fun w _ _ _ _ _ => run_len T hx w _ _ _ _) k
theorem OKx_lenR {x : Operand} {t : TypeId} {e sz bytes : Nat} {z : Value} [T : TSlice P t e sz bytes z] {v : Value} {s N : Nat} {f : Nat → Value} (hx : rv n F x = v) (hv : Sl w0 v s N f) (k : OKx P n w0 m ops K rest (updo F d (.int .i64 (N : Int))) L) :
    OKx P n w0 m ops K (⟨d, .call { callee := .builtin .len, args := #[x], argTypes := #[t] }, ty, pos, aft, none⟩ :: rest) F L := by
  obtain ⟨a, cap, e, _⟩ := hv.out
  subst e
  exact OKx_len hx k
theorem OKx_lenO {x : Operand} {t : TypeId} {e sz bytes : Nat} {z : Value} [T : TSlice P t e sz bytes z] {v : Value} (i : Nat) {e' s N : Nat} {xs : List Value} (hx : rv n F x = v) (hi : L[i]? = some (.row e' s v N xs)) (k : OKx P n w0 m ops K rest (updo F d (.int .i64 (N : Int))) L) :
    OKx P n w0 m ops K (⟨d, .call { callee := .builtin .len, args := #[x], argTypes := #[t] }, ty, pos, aft, none⟩ :: rest) F L := by
  refine OKx_still (fun w hp _ _ _ _ => ?_) k
  obtain ⟨a, cap, e, _⟩ := hp.rowShape i hi
  subst e
  exact run_len T hx w _ _ _ _
theorem OKx_lenS {x : Operand} {t : TypeId} [T : TStr P t] {s : ByteArray} (hx : rv n F x = .string s) (k : OKx P n w0 m ops K rest (updo F d (.int .i64 (s.size : Int))) L) :
    OKx P n w0 m ops K (⟨d, .call { callee := .builtin .len, args := #[x], argTypes := #[t] }, ty, pos, aft, none⟩ :: rest) F L :=
  OKx_still (fun w _ _ _ _ _ => by
    have hu : (underlying t).run P w = .ok .string w := by simp [underlying, program, Sem.run_bind, Sem.run, T.und, Result.andThen]
    simp [execOp, resolve, invoke, builtin, hx, Builtin.len_, Sem.run_bind, hu, Result.andThen, goInt]) k
theorem add_at (b o k : Nat) : (⟨b, o, none⟩ : Addr).add k = ⟨b, o + k, none⟩ := by
  unfold Addr.add
  split
  · rename_i h; subst h; rfl
  · rfl
theorem run_index {t e sz bytes : Nat} {z : Value} (T : TSlice P t e sz bytes z) {x ix : Operand} {b o N cap : Nat} {k : IntKind} {i : Int} {ρ : Operand → Value} (hx : ρ x = .slice (some ⟨b, o, none⟩) N cap) (hix : ρ ix = .int k i) (h0 : 0 ≤ i) (h1 : i < N)
    (w : World) (dd : Option Nat) (p : String) (af : Array Edge) (g : Option (Nat × Bool)) : (execOp ρ ⟨dd, .indexAddr t x ix, ty, p, af, g⟩).run P w = .ok (.value (.pointer (some ⟨b, o + i.toNat * sz, none⟩))) w := by
  simp [execOp, Instr.indexAt, hx, hix, asIntOf, Sem.run_bind, T.und, T.size, Result.andThen, h0, h1, add_at]
def Pt (w : World) (p : Value) (sz : Nat) (f : Nat → Value) : Prop := ∃ b o, p = .pointer (some ⟨b, o, none⟩) ∧ ∀ j, j < sz → w.cell? ⟨b, o + j, none⟩ = some (f j)
def Pt1 (w : World) (p : Value) (v : Value) : Prop := ∃ b o, p = .pointer (some ⟨b, o, none⟩) ∧ w.cell? ⟨b, o, none⟩ = some v
theorem OKx_idxO {t e bytes : Nat} {z : Value} [T : TSlice P t e 1 bytes z] {x ix : Operand} {g N cap : Nat} {k : IntKind} {i : Nat} (hx : rv n F x = .slice (some ⟨g, 0, none⟩) N cap) (hix : rv n F ix = .int k (i : Int)) (h1 : i < N)
    (kk : OKx P n w0 m ops K rest (updo F d (.pointer (some ⟨g, i, none⟩))) L) : OKx P n w0 m ops K (⟨d, .indexAddr t x ix, ty, pos, aft, none⟩ :: rest) F L :=
  OKx_still (fun w _ _ _ _ _ => by
    have := run_index T hx hix (by omega) (by omega) w (ty := ty)
    simp only [Int.toNat_natCast, Nat.mul_one, Nat.zero_add] at this
    exact this _ _ _ _) kk
theorem OKx_idxOz {t e bytes : Nat} {z : Value} [T : TSlice P t e 1 bytes z] {x ix : Operand} {g N cap : Nat} {k : IntKind} {i : Int} (hx : rv n F x = .slice (some ⟨g, 0, none⟩) N cap) (hix : rv n F ix = .int k i) (h0 : 0 ≤ i) (h1 : i < N)
    (kk : OKx P n w0 m ops K rest (updo F d (.pointer (some ⟨g, i.toNat, none⟩))) L) : OKx P n w0 m ops K (⟨d, .indexAddr t x ix, ty, pos, aft, none⟩ :: rest) F L :=
  OKx_still (fun w _ _ _ _ _ => by
    have := run_index T hx hix h0 h1 w (ty := ty)
    simp only [Nat.mul_one, Nat.zero_add] at this
    exact this _ _ _ _) kk
theorem OKx_idxR {t e bytes : Nat} {z : Value} [T : TSlice P t e 1 bytes z] {x ix : Operand} {v : Value} {N : Nat} {f : Nat → Value} {k : IntKind} {i : Nat} (hx : rv n F x = v) (hv : Sl w0 v 1 N f) (hix : rv n F ix = .int k (i : Int)) (h1 : i < N)
    (kk : ∀ p, Pt1 w0 p (f i) → OKx P n w0 m ops K rest (updo F d p) L) : OKx P n w0 m ops K (⟨d, .indexAddr t x ix, ty, pos, aft, none⟩ :: rest) F L := by
  obtain ⟨a, cap, e, h | ⟨b, off, ha, hc⟩⟩ := hv.out
  · omega
  · subst e; subst ha
    refine OKx_still (fun w _ _ _ _ _ => ?_) (kk (.pointer (some ⟨b, off + i, none⟩)) ⟨b, off + i, rfl, hc i (by omega)⟩)
    have := run_index T hx hix (by omega) (by omega) w (ty := ty)
    simp only [Int.toNat_natCast, Nat.mul_one] at this
    exact this _ _ _ _
theorem OKx_idxRz {t e bytes : Nat} {z : Value} [T : TSlice P t e 1 bytes z] {x ix : Operand} {v : Value} {N : Nat} {f : Nat → Value} {k : IntKind} {i : Int} (hx : rv n F x = v) (hv : Sl w0 v 1 N f) (hix : rv n F ix = .int k i) (h0 : 0 ≤ i) (h1 : i < N)
    (kk : ∀ p, Pt1 w0 p (f i.toNat) → OKx P n w0 m ops K rest (updo F d p) L) : OKx P n w0 m ops K (⟨d, .indexAddr t x ix, ty, pos, aft, none⟩ :: rest) F L := by
  obtain ⟨j, rfl⟩ := Int.eq_ofNat_of_zero_le h0
  exact OKx_idxR hx hv hix (by omega) kk
theorem OKx_idxS {t : TypeId} [T : TStr P t] {x ix : Operand} {s : ByteArray} {k : IntKind} {i : Nat} (hx : rv n F x = .string s) (hix : rv n F ix = .int k (i : Int)) (h1 : i < s.size)
    (kk : OKx P n w0 m ops K rest (updo F d (.int .u8 ((s[i]'h1).toNat : Int))) L) : OKx P n w0 m ops K (⟨d, .index t x ix, ty, pos, aft, none⟩ :: rest) F L :=
  OKx_still (fun w _ _ _ _ _ => by
    have hu : (underlying t).run P w = .ok .string w := by simp [underlying, program, Sem.run_bind, Sem.run, T.und, Result.andThen]
    simp [execOp, Instr.index, hx, hix, asIntOf, Sem.run_bind, hu, Result.andThen, h1]) kk
theorem run_fieldAddr {s f off t : Nat} (T : TFld P s f off t) {x : Operand} {b o : Nat} {ρ : Operand → Value} (hx : ρ x = .pointer (some ⟨b, o, none⟩)) (w : World) (dd : Option Nat) (p : String) (af : Array Edge) (g : Option (Nat × Bool)) :
    (execOp ρ ⟨dd, .fieldAddr s x f, ty, p, af, g⟩).run P w = .ok (.value (.pointer (some ⟨b, o + off, none⟩))) w := by
  obtain ⟨fs, fl, i, h1, h2, h3, h4, h5, h6⟩ := T.at'
  have hu : (underlying s).run P w = .ok (.struct fs) w := by simp [underlying, program, Sem.run_bind, Sem.run, h1, Result.andThen]
  have hs : (sizeOf fl.type).run P w = .ok i.size w := by simp [sizeOf, typeInfo, program, Sem.run_bind, Sem.run, h4, h5, Result.andThen]
  simp [execOp, Instr.fieldAt, hx, Sem.run_bind, hu, h2, Instr.sureAddr, fieldPlace, hs, Result.andThen, h6, h3, add_at]
theorem OKx_fldO {s f off t : Nat} [T : TFld P s f off t] {x : Operand} {b o o' : Nat} (hx : rv n F x = .pointer (some ⟨b, o, none⟩)) (ho : Nat.add o off = o') (k : OKx P n w0 m ops K rest (updo F d (.pointer (some ⟨b, o', none⟩))) L) : OKx P n w0 m ops K (⟨d, .fieldAddr s x f, ty, pos, aft, none⟩ :: rest) F L := by
  subst ho
  exact OKx_still (fun w _ _ _ _ _ => run_fieldAddr T hx w _ _ _ _) k
theorem OKx_fldR {s f off t : Nat} [T : TFld P s f off t] {x : Operand} {v : Value} {sz : Nat} {g : Nat → Value} (hx : rv n F x = v) (hv : Pt w0 v sz g) (ho : off < sz) (k : ∀ p, Pt1 w0 p (g off) → OKx P n w0 m ops K rest (updo F d p) L) : OKx P n w0 m ops K (⟨d, .fieldAddr s x f, ty, pos, aft, none⟩ :: rest) F L := by
  obtain ⟨b, o, rfl, hc⟩ := hv
  exact OKx_still (fun w _ _ _ _ _ => run_fieldAddr T hx w _ _ _ _) (k _ ⟨b, o + off, rfl, hc off ho⟩)
def Sl2 (w : World) (v : Value) (sz N : Nat) (g : Nat → Nat → Value) : Prop :=
  N ≤ 140737488355328 ∧ ∃ a cap, v = .slice a N cap ∧ (N = 0 ∨ ∃ b off, a = some ⟨b, off, none⟩ ∧ ∀ j, j < N → ∀ c, c < sz → w.cell? ⟨b, off + j * sz + c, none⟩ = some (g j c))
theorem Sl2.below {w w' : World} {v : Value} {sz N : Nat} {g : Nat → Nat → Value} (h : Sl2 w v sz N g) (hb : Below w.heap.size w w') : Sl2 w' v sz N g := by
  obtain ⟨h1, a, cap, h2, h3⟩ := h
  refine ⟨h1, a, cap, h2, ?_⟩
  rcases h3 with h3 | ⟨b, off, h4, h5⟩
  · exact .inl h3
  · exact .inr ⟨b, off, h4, fun j hj c hc => (hb.cell (p := ⟨b, off + j * sz + c, none⟩) (World.block_lt_of_cell? w _ (h5 j hj c hc))).trans (h5 j hj c hc)⟩
theorem OKx_lenR2 {x : Operand} {t : TypeId} {e sz' bytes : Nat} {z : Value} [T : TSlice P t e sz' bytes z] {v : Value} {sz N : Nat} {g : Nat → Nat → Value} (hx : rv n F x = v) (hv : Sl2 w0 v sz N g) (k : OKx P n w0 m ops K rest (updo F d (.int .i64 (N : Int))) L) :
    OKx P n w0 m ops K (⟨d, .call { callee := .builtin .len, args := #[x], argTypes := #[t] }, ty, pos, aft, none⟩ :: rest) F L := by
  obtain ⟨_, a, cap, e, _⟩ := hv
  subst e
  exact OKx_len hx k
theorem OKx_idxR2 {t e sz bytes : Nat} {z : Value} [T : TSlice P t e sz bytes z] {x ix : Operand} {v : Value} {N : Nat} {g : Nat → Nat → Value} {k : IntKind} {i : Nat} (hx : rv n F x = v) (hv : Sl2 w0 v sz N g) (hix : rv n F ix = .int k (i : Int)) (h1 : i < N)
    (kk : ∀ p, Pt w0 p sz (g i) → OKx P n w0 m ops K rest (updo F d p) L) : OKx P n w0 m ops K (⟨d, .indexAddr t x ix, ty, pos, aft, none⟩ :: rest) F L := by
  obtain ⟨_, a, cap, e, h | ⟨b, off, ha, hc⟩⟩ := hv
  · omega
  · subst e; subst ha
    refine OKx_still (fun w _ _ _ _ _ => ?_) (kk (.pointer (some ⟨b, off + i * sz, none⟩)) ⟨b, off + i * sz, rfl, fun c hcs => hc i h1 c hcs⟩)
    have := run_index T hx hix (by omega) (by omega) w (ty := ty)
    simp only [Int.toNat_natCast] at this
    exact this _ _ _ _
theorem run_load1 {t : TypeId} {z : Value} (T : TOne P t z) {x : Operand} {a : Addr} {v : Value} {ρ : Operand → Value} (hx : ρ x = .pointer (some a)) {w : World} (hc : w.cell? a = some v) (dd : Option Nat) (p : String) (af : Array Edge) (g : Option (Nat × Bool)) :
    (execOp ρ ⟨dd, .load t x, ty, p, af, g⟩).run P w = .ok (.value v) w := by
  simp [execOp, Instr.loadAt, hx, Instr.sureAddr, loadVar, Sem.run_bind, T.agg, Result.andThen, load, Sem.run, hc]
theorem OKx_ldB {t : TypeId} {z : Value} [T : TOne P t z] {x : Operand} {g k : Nat} (i : Nat) {e : TypeId} {cs : List Value} {v : Value} (hx : rv n F x = .pointer (some ⟨g, k, none⟩)) (hi : L[i]? = some (.box e g cs)) (hc : cs[k]? = some v)
    (kk : OKx P n w0 m ops K rest (updo F d v) L) : OKx P n w0 m ops K (⟨d, .load t x, ty, pos, aft, none⟩ :: rest) F L :=
  OKx_still (fun w hp _ _ _ _ => run_load1 T hx (((hp.boxAt i hi).1 k).trans hc) _ _ _ _) kk
theorem OKx_ldW {t : TypeId} {z : Value} [T : TOne P t z] {x : Operand} {g k : Nat} (i : Nat) {e : TypeId} {N cap : Nat} {cs : List Value} {v : Value} (hx : rv n F x = .pointer (some ⟨g, k, none⟩)) (hi : L[i]? = some (.row e 1 (.slice (some ⟨g, 0, none⟩) N cap) N cs)) (hk : k < N) (hc : cs[k]? = some v)
    (kk : OKx P n w0 m ops K rest (updo F d v) L) : OKx P n w0 m ops K (⟨d, .load t x, ty, pos, aft, none⟩ :: rest) F L :=
  OKx_still (fun w hp _ _ _ _ => run_load1 T hx (((hp.rowAt i hi).1 k (by omega)).trans hc) _ _ _ _) kk
theorem OKx_ldR {t : TypeId} {z : Value} [T : TOne P t z] {x : Operand} {p v : Value} (hx : rv n F x = p) (hp : Pt1 w0 p v)
    (kk : OKx P n w0 m ops K rest (updo F d v) L) : OKx P n w0 m ops K (⟨d, .load t x, ty, pos, aft, none⟩ :: rest) F L := by
  obtain ⟨b, o, rfl, hc⟩ := hp
  exact OKx_still (fun w hp _ _ _ _ => run_load1 T hx ((hp.below.cell (World.block_lt_of_cell? w0 _ hc)).trans hc) _ _ _ _) kk
theorem run_cells {a : Addr} {w : World} : ∀ (cs : List Value) (i : Nat) (acc : Array Value), (∀ j, j < cs.length → w.cell? (a.add (i + j)) = cs[j]?) → (loadCellsFrom a i cs.length acc).run P w = .ok (acc ++ cs.toArray) w := by
  intro cs
  induction cs with
  | nil => intro i acc _; simp [loadCellsFrom]
  | cons c cs ih =>
    intro i acc h
    have h0 := h 0 (by simp)
    simp only [Nat.add_zero, List.getElem?_cons_zero] at h0
    have := ih (i + 1) (acc.push c) (fun j hj => by
      have := h (j + 1) (by simpa using hj)
      rw [show i + 1 + j = i + (j + 1) by omega, this]; simp)
    simp [loadCellsFrom, Sem.run_bind, load, Sem.run, h0, Result.andThen, this]
theorem run_loadA {t sz : Nat} {zs : List Value} (T : TAgg P t sz zs) {x : Operand} {b o : Nat} {cs : List Value} {ρ : Operand → Value} (hx : ρ x = .pointer (some ⟨b, o, none⟩)) {w : World} (hl : cs.length = sz) (hc : ∀ j, j < cs.length → w.cell? ⟨b, o + j, none⟩ = cs[j]?) (dd : Option Nat) (p : String) (af : Array Edge) (g : Option (Nat × Bool)) :
    (execOp ρ ⟨dd, .load t x, ty, p, af, g⟩).run P w = .ok (.value (.agg cs.toArray)) w := by
  subst hl
  have := run_cells (P := P) (a := ⟨b, o, none⟩) (w := w) cs 0 #[] (fun j hj => by rw [Nat.zero_add, add_at]; exact hc j hj)
  simp [execOp, Instr.loadAt, hx, Instr.sureAddr, loadVar, Sem.run_bind, T.agg, T.size, Result.andThen, loadCells, this]
theorem OKx_ldBA {t sz : Nat} {zs : List Value} [T : TAgg P t sz zs] {x : Operand} {g : Nat} (i : Nat) {e : TypeId} {cs : List Value} (hx : rv n F x = .pointer (some ⟨g, 0, none⟩)) (hi : L[i]? = some (.box e g cs)) (hl : cs.length = sz)
    (kk : OKx P n w0 m ops K rest (updo F d (.agg cs.toArray)) L) : OKx P n w0 m ops K (⟨d, .load t x, ty, pos, aft, none⟩ :: rest) F L :=
  OKx_still (fun w hp _ _ _ _ => run_loadA T hx hl (fun j hj => by rw [Nat.zero_add]; exact (hp.boxAt i hi).1 j) _ _ _ _) kk
theorem OKx_ldRA {t sz : Nat} {zs : List Value} [T : TAgg P t sz zs] {x : Operand} {p : Value} {f : Nat → Value} (hx : rv n F x = p) (hp : Pt w0 p sz f)
    (kk : OKx P n w0 m ops K rest (updo F d (.agg ((List.range sz).map f).toArray)) L) : OKx P n w0 m ops K (⟨d, .load t x, ty, pos, aft, none⟩ :: rest) F L := by
  obtain ⟨b, o, rfl, hc⟩ := hp
  refine OKx_still (fun w hp _ _ _ _ => run_loadA T hx (by simp) (fun j hj => ?_) _ _ _ _) kk
  have hj' : j < sz := by simpa using hj
  rw [(hp.below.cell (World.block_lt_of_cell? w0 _ (hc j hj'))).trans (hc j hj')]
  simp [hj']
theorem OKx_func {fn : Fn} {a b : Array Operand} {x y : List Value} (hx : a.toList.map (rv n F) = x) (hy : b.toList.map (rv n F) = y) (kk : OKx P n w0 m ops K rest (updo F d (.func fn x.toArray y.toArray)) L) : OKx P n w0 m ops K (⟨d, .makeFunc fn a b, ty, pos, aft, none⟩ :: rest) F L := by
  refine OKx_still (fun w _ _ _ _ _ => ?_) kk
  subst hx; subst hy
  have e : ∀ c : Array Operand, Array.map (rv n F) c = (List.map (rv n F) c.toList).toArray := fun c => by rw [← Array.toList_inj]; simp
  simp [execOp, Instr.makeFunc, e]
theorem OKx_box1 {e : TypeId} {x : Operand} {v : Value} [hE : Keeps w0 L Lw] (hx : rv n F x = v) (hc : v.cells = #[v]) (kk : ∀ g, OKx P n w0 (.seq Lw) ops K rest (updo F d (.pointer (some ⟨g, 0, none⟩))) (.box e g [v] :: L)) :
    OKx P n w0 (.seq Lw) ops K (⟨d, .box e x, ty, pos, aft, none⟩ :: rest) F L := by
  refine OKx_act hE.ent fun w hp => ⟨_, w.alloc (.cells #[v] e), _, ?_, hp.box e #[v], kk w.heap.size⟩
  simp [execOp, Instr.box, hx, newVar, newRow, newObj, Sem.run_bind, Sem.run, hc, Result.andThen]
theorem OKx_boxA {e : TypeId} {x : Operand} {cs : Array Value} [hE : Keeps w0 L Lw] (hx : rv n F x = .agg cs) (kk : ∀ g, OKx P n w0 (.seq Lw) ops K rest (updo F d (.pointer (some ⟨g, 0, none⟩))) (.box e g cs.toList :: L)) :
    OKx P n w0 (.seq Lw) ops K (⟨d, .box e x, ty, pos, aft, none⟩ :: rest) F L := by
  refine OKx_act hE.ent fun w hp => ⟨_, w.alloc (.cells cs e), _, ?_, hp.box e cs, kk w.heap.size⟩
  simp [execOp, Instr.box, hx, newVar, newRow, newObj, Sem.run_bind, Sem.run, Value.cells, Result.andThen]
theorem OKx_alloc1 {e : TypeId} {z : Value} [T : TOne P e z] [hE : Keeps w0 L Lw] (kk : ∀ g, OKx P n w0 (.seq Lw) ops K rest (updo F d (.pointer (some ⟨g, 0, none⟩))) (.box e g [z] :: L)) :
    OKx P n w0 (.seq Lw) ops K (⟨d, .alloc e, ty, pos, aft, none⟩ :: rest) F L := by
  refine OKx_act hE.ent fun w hp => ⟨_, w.alloc (.cells #[z] e), _, ?_, hp.box e #[z], kk w.heap.size⟩
  simp [execOp, Instr.alloc, newVar, newRow, newObj, Sem.run_bind, Sem.run, T.zero, T.cells, Result.andThen]
theorem OKx_allocA {e sz : Nat} {zs : List Value} [T : TAgg P e sz zs] [hE : Keeps w0 L Lw] (kk : ∀ g, OKx P n w0 (.seq Lw) ops K rest (updo F d (.pointer (some ⟨g, 0, none⟩))) (.box e g zs :: L)) :
    OKx P n w0 (.seq Lw) ops K (⟨d, .alloc e, ty, pos, aft, none⟩ :: rest) F L := by
  refine OKx_act hE.ent fun w hp => ⟨_, w.alloc (.cells zs.toArray e), _, ?_, hp.box e zs.toArray, kk w.heap.size⟩
  simp [execOp, Instr.alloc, newVar, newRow, newObj, Sem.run_bind, Sem.run, T.zero, Value.cells, Result.andThen]
theorem one_store {v : Value} (h : v.oneCell' = true) (p : Addr) (w : World) (hc : ∃ u, w.cell? p = some u) (hf : w.frozen? p = false) : (store p v).run P w = .ok () (w.setCell p v) := by
  obtain ⟨u, hu⟩ := hc
  cases v <;> first | (simp [Value.oneCell'] at h; done) | simp [store, Sem.run, hu, hf]
theorem run_store1 {t : TypeId} {z : Value} (T : TOne P t z) {x y : Operand} {b o : Nat} {v u : Value} {ρ : Operand → Value} (hx : ρ x = .pointer (some ⟨b, o, none⟩)) (hy : ρ y = v) (h1 : v.oneCell' = true) (hv : v.cells = #[v]) {w : World} (hc : w.cell? ⟨b, o, none⟩ = some u) (hf : w.frozen? ⟨b, o, none⟩ = false)
    (dd : Option Nat) (p : String) (af : Array Edge) (g : Option (Nat × Bool)) : (execOp ρ ⟨dd, .store t x y, ty, p, af, g⟩).run P w = .ok .skip (w.setCell ⟨b, o, none⟩ v) := by
  have h0 := add_at b o 0
  simp only [Nat.add_zero] at h0
  simp [execOp, Instr.storeAt, hx, hy, Instr.sureAddr, storeVar, Sem.run_bind, T.size, hv, storeCells, h0, one_store h1 _ w ⟨u, hc⟩ hf, Result.andThen]
theorem OKx_stB {t : TypeId} {z : Value} [T : TOne P t z] {x y : Operand} {g k : Nat} {v : Value} [hE : Keeps w0 L Lw] (i : Nat) {e : TypeId} {cs : List Value} {cs' : List Value} {L' : List Res} (hx : rv n F x = .pointer (some ⟨g, k, none⟩)) (hy : rv n F y = v) (h1 : v.oneCell' = true) (hv : v.cells = #[v]) (hi : L[i]? = some (.box e g cs)) (hk : Nat.ble (k + 1) cs.length = true)
    (hs : cs.set k v = cs') (hL : L.set i (.box e g cs') = L') (kk : OKx P n w0 (.seq Lw) ops K rest (updo F d undef) L') : OKx P n w0 (.seq Lw) ops K (⟨d, .store t x y, ty, pos, aft, none⟩ :: rest) F L := by
  subst hs; subst hL
  have hk' : k < cs.length := by rw [Nat.ble_eq] at hk; exact hk
  refine OKx_act0 hE.ent fun w hp => ⟨_, _, ?_, hp.setBox hi k v, kk⟩
  obtain ⟨hc, hf, _, _⟩ := hp.boxAt i hi
  exact run_store1 T hx hy h1 hv ((hc k).trans (List.getElem?_eq_getElem hk')) (hf k) _ _ _ _
theorem OKx_stW {t : TypeId} {z : Value} [T : TOne P t z] {x y : Operand} {g k : Nat} {v : Value} [hE : Keeps w0 L Lw] (i : Nat) {e : TypeId} {N cap : Nat} {cs cs' : List Value} {L' : List Res} (hx : rv n F x = .pointer (some ⟨g, k, none⟩)) (hy : rv n F y = v) (h1 : v.oneCell' = true) (hv : v.cells = #[v]) (hi : L[i]? = some (.row e 1 (.slice (some ⟨g, 0, none⟩) N cap) N cs)) (hk : k < N)
    (hs : cs.set k v = cs') (hL : L.set i (.row e 1 (.slice (some ⟨g, 0, none⟩) N cap) N cs') = L') (kk : OKx P n w0 (.seq Lw) ops K rest (updo F d undef) L') : OKx P n w0 (.seq Lw) ops K (⟨d, .store t x y, ty, pos, aft, none⟩ :: rest) F L := by
  subst hs; subst hL
  refine OKx_act0 hE.ent fun w hp => ⟨_, _, ?_, hp.setRow hi k v, kk⟩
  obtain ⟨hc, hf, _, _⟩ := hp.rowAt i hi
  have ho : w.ownsRow w0.heap.size e 1 (.slice (some ⟨g, 0, none⟩) N cap) N cs := hp.ok _ (List.mem_of_getElem? hi)
  have hl := ho.1
  exact run_store1 T hx hy h1 hv ((hc k (by omega)).trans (List.getElem?_eq_getElem (by omega))) (hf k) _ _ _ _
theorem foldl_cells (cs : List Value) : ∀ (i : Nat) (acc : List Value), i + cs.length ≤ acc.length →
    ((cs.zipIdx i).foldl (fun (a : Array Value) (x : Value × Nat) => a.setIfInBounds x.2 x.1) acc.toArray).toList = acc.take i ++ cs ++ acc.drop (i + cs.length) := by
  induction cs with
  | nil => intro i acc _; simp
  | cons c cs ih =>
    intro i acc h
    simp only [List.length_cons] at h
    simp only [List.zipIdx_cons, List.foldl_cons, List.setIfInBounds_toArray]
    rw [ih (i + 1) (acc.set i c) (by simp; omega)]
    have hi : i < acc.length := by omega
    have e1 : (acc.set i c).take (i + 1) = acc.take i ++ [c] := by
      rw [List.take_succ_eq_append_getElem (by simpa using hi)]
      simp [List.take_set_of_le]
    rw [e1, List.drop_set_of_lt (by omega)]
    simp [Nat.add_assoc, Nat.add_comm 1]
theorem run_call {fo : Operand} {args : Array Operand} {tt : Array TypeId} {f : FuncId} {fs cs : Array Value} {av : List Value} {ρ : Operand → Value} (hf : ρ fo = .func (.func f) fs cs) (ha : fs.toList ++ args.toList.map ρ ++ cs.toList = av) (he : Enters' P f)
    (w : World) (dd : Option Nat) (p : String) (af : Array Edge) (g : Option (Nat × Bool)) : (execOp ρ ⟨dd, .call { callee := .value fo, args := args, argTypes := tt }, ty, p, af, g⟩).run P w = .ok (.enter f av.toArray) w := by
  have e : fs ++ Array.map ρ args ++ cs = av.toArray := by
    rw [← Array.toList_inj, ← ha]; simp
  have e2 := he.run av.toArray w
  simp only [execOp, resolve, hf, Deferred.ofValue, Sem.run_bind, Sem.run_pure, Result.andThen, invoke]
  rw [e, e2]
theorem OKx_call {fo : Operand} {args : Array Operand} {tt : Array TypeId} {f : FuncId} {fs cs : Array Value} {av : List Value} {R : Value → List Res → Prop}
    [hE : Keeps w0 L Lw] (hf : rv n F fo = .func (.func f) fs cs) (ha : fs.toList ++ args.toList.map (rv n F) ++ cs.toList = av)
    (h : ∀ w, Hp w0.heap.size w0 w L → Sat P f av w R) (kk : ∀ v L', R v L' → OKx P n w0 (.seq Lw) ops K rest (updo F d v) (L' ++ L)) :
    OKx P n w0 (.seq Lw) ops K (⟨d, .call { callee := .value fo, args := args, argTypes := tt }, ty, pos, aft, none⟩ :: rest) F L := by
  refine OKx_actW hE.ent fun w a hfr hp => ?_
  have hs := h w hp
  unfold Oper.wp
  rw [hfr.eval, run_call hf ha hs.enters, Oper.upon_enter]
  refine hs.at.mono ?_
  rintro e w' ⟨v, L', rfl, hp', hR⟩
  exact ((kk v L' hR).use w' _ (hfr.put d v) (hp.call hp'))
theorem OKx_callL {fo : Operand} {args : Array Operand} {tt : Array TypeId} {f : FuncId} {fs cs : Array Value} {av : List Value} {R : Value → List Res → Prop}
    [hE : Keeps w0 L Lw] (hf : rv n F fo = .func (.func f) fs cs) (ha : fs.toList ++ args.toList.map (rv n F) ++ cs.toList = av)
    (h : SatL P f av w0 L R) (kk : ∀ v L', R v L' → OKx P n w0 (.seq Lw) ops K rest (updo F d v) L') :
    OKx P n w0 (.seq Lw) ops K (⟨d, .call { callee := .value fo, args := args, argTypes := tt }, ty, pos, aft, none⟩ :: rest) F L := by
  refine OKx_actW hE.ent fun w a hfr hp => ?_
  unfold Oper.wp
  rw [hfr.eval, run_call hf ha h.enters, Oper.upon_enter]
  refine (h.calls w hp).mono ?_
  rintro e w' ⟨v, L', rfl, hp', hR⟩
  exact ((kk v L' hR).use w' _ (hfr.put d v) hp')
theorem OKx_callQ {fo : Operand} {args : Array Operand} {tt : Array TypeId} {f : FuncId} {fs cs : Array Value} {av : List Value} {R : Value → List Res → Prop} {v : Value}
    (hf : rv n F fo = .func (.func f) fs cs) (ha : fs.toList ++ args.toList.map (rv n F) ++ cs.toList = av)
    (h : ∀ w, Hp w0.heap.size w0 w L → Sat P f av w R) (hR : ∀ u L', R u L' → u = v) (kk : OKx P n w0 .quiet ops K rest (updo F d v) L) :
    OKx P n w0 .quiet ops K (⟨d, .call { callee := .value fo, args := args, argTypes := tt }, ty, pos, aft, none⟩ :: rest) F L := by
  refine OKx.mkQ fun a hfr => ?_
  unfold wpQuiet
  simp only [Region.wanted, if_true]
  refine ⟨v, fun w hp => ?_, kk.useQ _ (hfr.put d v)⟩
  have hs := h w hp
  unfold Oper.quietAt
  rw [hfr.eval, run_call hf ha hs.enters]
  refine ⟨rfl, hs.at.mono ?_⟩
  rintro e w' ⟨u, L', rfl, hp', hR'⟩
  rw [hR u L' hR']
  exact ⟨rfl, (hp.call hp').sub (List.sublist_append_right L' L)⟩
def Md.calls : Md → Bool
  | .pure => false
  | _ => true
abbrev SatV (P : Program) (f : FuncId) (av : List Value) (w : World) (v : Value) : Prop := Sat P f av w (fun u L' => u = v ∧ L' = [])
theorem OKx_callV {fo : Operand} {args : Array Operand} {tt : Array TypeId} {f : FuncId} {fs cs : Array Value} {av : List Value} {v : Value}
    (hm : m.calls = true) [hk : KeepsM w0 L m] (hf : rv n F fo = .func (.func f) fs cs) (ha : fs.toList ++ args.toList.map (rv n F) ++ cs.toList = av)
    (h : ∀ w, Hp w0.heap.size w0 w L → SatV P f av w v) (kk : OKx P n w0 m ops K rest (updo F d v) L) :
    OKx P n w0 m ops K (⟨d, .call { callee := .value fo, args := args, argTypes := tt }, ty, pos, aft, none⟩ :: rest) F L := by
  cases m with
  | seq Lw => exact OKx_call (hE := ⟨hk.ent⟩) hf ha h (by rintro u L' ⟨rfl, rfl⟩; exact kk)
  | quiet => exact OKx_callQ hf ha h (fun u L' h => h.1) kk
  | pure => cases hm
theorem OKx_callB {fo : Operand} {args : Array Operand} {tt : Array TypeId} {f : FuncId} {fs cs : Array Value} {av : List Value} {b : Bool}
    (hm : m.calls = true) [hk : KeepsM w0 L m] (hf : rv n F fo = .func (.func f) fs cs) (ha : fs.toList ++ args.toList.map (rv n F) ++ cs.toList = av)
    (h : ∀ w, Hp w0.heap.size w0 w L → SatV P f av w (.bool b)) (kT : b = true → OKx P n w0 m ops K rest (updo F d (.bool true)) L) (kF : b = false → OKx P n w0 m ops K rest (updo F d (.bool false)) L) :
    OKx P n w0 m ops K (⟨d, .call { callee := .value fo, args := args, argTypes := tt }, ty, pos, aft, none⟩ :: rest) F L := by
  cases b with
  | true => exact OKx_callV hm hf ha h (kT rfl)
  | false => exact OKx_callV hm hf ha h (kF rfl)
theorem OKx_append1 {s x : Operand} {t : TypeId} {e e' bytes : Nat} {z : Value} [T : TSlice P t e 1 bytes z] [hE : Keeps w0 L Lw] (i j : Nat) {v y : Value} {N g c : Nat} {xs : List Value}
    (hs : rv n F s = v) (hx : rv n F x = .slice (some ⟨g, 0, none⟩) 1 c) (hi : L[i]? = some (.row e 1 v N xs)) (hj : L[j]? = some (.row e' 1 (.slice (some ⟨g, 0, none⟩) 1 c) 1 [y])) (h1 : y.oneCell' = true)
    (hb : (N + 1) * bytes ≤ 140737488355328) (hN : N + 1 ≤ 9223372036854775807)
    (kk : ∀ g' cap, OKx P n w0 (.seq Lw) ops K rest (updo F d (.slice (some ⟨g', 0, none⟩) (N + 1) cap)) (L.set i (.row e 1 (.slice (some ⟨g', 0, none⟩) (N + 1) cap) (N + 1) (xs ++ [y])))) :
    OKx P n w0 (.seq Lw) ops K (⟨d, .call { callee := .builtin .append, args := #[s, x], argTypes := #[t, t] }, ty, pos, aft, none⟩ :: rest) F L := by
  refine OKx_actW hE.ent fun w a hfr hp => wp_of_list (ops := ops) rfl ?_
  have hc : w.cell? ⟨g, 0, none⟩ = some y := by
    have := (hp.rowAt j hj).1 0 (by omega)
    simpa using this
  refine wpList_append1_hp rfl s x t rfl T.ty hp i hi (by rw [hfr.eval]; exact hs) g c y (by rw [hfr.eval]; exact hx) hc h1 hb hN ?_
  intro g' cap w' hp'
  exact ⟨rfl, (kk g' cap).use w' _ (hfr.put d _) hp'⟩
theorem OKx_append {s x : Operand} {t : TypeId} {e sz bytes : Nat} {z : Value} [T : TSlice P t e sz bytes z] [hE : Keeps w0 L Lw] (i : Nat) {v : Value} {N b o M c : Nat} {xs ys : List Value}
    (hs : rv n F s = v) (hx : rv n F x = .slice (some ⟨b, o, none⟩) M c) (hi : L[i]? = some (.row e sz v N xs)) (hl : ys.length = M * sz) (hy : ∀ w, Hp w0.heap.size w0 w L → ∀ j u, ys[j]? = some u → w.cell? ⟨b, o + j, none⟩ = some u) (h1 : ∀ u ∈ ys, u.oneCell' = true)
    (hb : (N + M) * bytes ≤ 140737488355328) (hN : N + M ≤ 9223372036854775807) (hM : 0 < M)
    (kk : ∀ g' cap, OKx P n w0 (.seq Lw) ops K rest (updo F d (.slice (some ⟨g', 0, none⟩) (N + M) cap)) (L.set i (.row e sz (.slice (some ⟨g', 0, none⟩) (N + M) cap) (N + M) (xs ++ ys)))) :
    OKx P n w0 (.seq Lw) ops K (⟨d, .call { callee := .builtin .append, args := #[s, x], argTypes := #[t, t] }, ty, pos, aft, none⟩ :: rest) F L := by
  refine OKx_actW hE.ent fun w a hfr hp => wp_of_list (ops := ops) rfl ?_
  refine wpList_append_hp rfl s x t rfl T.ty hp i hi (by rw [hfr.eval]; exact hs) ⟨b, o, none⟩ M c ys (by rw [hfr.eval]; exact hx) hl (fun j u hj => by rw [add_at]; exact hy w hp j u hj) h1 hb hN ?_
  intro v' w' hp' hg
  obtain ⟨g', cap, rfl⟩ := hg hM
  exact ⟨rfl, (kk g' cap).use w' _ (hfr.put d _) hp'⟩
theorem fillS (sz : Nat) : ∀ (cs : List (List Value)) (vs : List Value) (k : Nat) (acc : List Value), vs.map (fun v => v.cells.toList) = cs → (∀ c ∈ cs, c.length = sz) → acc.length = (k + cs.length) * sz →
    Instr.fill (fun i => some (i * sz, sz)) acc.toArray ((vs.zipIdx k).map fun x => (x.2, x.1)) = some (acc.take (k * sz) ++ cs.flatten).toArray := by
  intro cs
  induction cs with
  | nil =>
    intro vs k acc hv _ hl
    obtain rfl : vs = [] := by simpa using hv
    simp only [List.length_nil, Nat.add_zero] at hl
    simp [Instr.fill, List.take_of_length_le (Nat.le_of_eq hl)]
  | cons c cs ih =>
    intro vs k acc hv hc hl
    obtain ⟨v, vs', rfl⟩ : ∃ v vs', vs = v :: vs' := by
      cases vs with
      | nil => simp at hv
      | cons v vs' => exact ⟨v, vs', rfl⟩
    simp only [List.map_cons, List.cons.injEq] at hv
    obtain ⟨hv1, hv2⟩ := hv
    have hcs : c.length = sz := hc c (by simp)
    have hvs : v.cells.size = sz := by rw [← hcs, ← hv1]; simp
    simp only [List.length_cons] at hl
    have hbd : k * sz + sz ≤ acc.length := by
      rw [hl, ← Nat.succ_mul]
      exact Nat.mul_le_mul_right _ (by omega)
    have hcond : ((!decide (v.cells.size = sz)) || decide (k * sz + v.cells.size > acc.toArray.size)) = false := by
      simp [hvs]; omega
    simp only [List.zipIdx_cons, List.map_cons, Instr.fill]
    have hcond' : (decide (v.cells.size ≠ sz) || decide (k * sz + v.cells.size > acc.toArray.size)) = false := by
      simp [hvs]; omega
    rw [if_neg (by rw [hcond']; simp)]
    have hfold : v.cells.zipIdx.foldl (fun (a : Array Value) (x : Value × Nat) => a.setIfInBounds (k * sz + x.2) x.1) acc.toArray = (acc.take (k * sz) ++ c ++ acc.drop (k * sz + sz)).toArray := by
      rw [← Array.toList_inj, ← Array.foldl_toList, Array.toList_zipIdx, hv1]
      have := foldl_cells c (k * sz) acc (by rw [hcs]; exact hbd)
      have hz : ∀ (l : List Value) (j : Nat) (b : Array Value), (l.zipIdx j).foldl (fun (a : Array Value) (x : Value × Nat) => a.setIfInBounds (k * sz + x.2) x.1) b = (l.zipIdx (k * sz + j)).foldl (fun (a : Array Value) (x : Value × Nat) => a.setIfInBounds x.2 x.1) b := by
        intro l
        induction l with
        | nil => intro j b; rfl
        | cons y l ih => intro j b; simp only [List.zipIdx_cons, List.foldl_cons]; rw [ih]; rfl
      rw [hz, Nat.add_zero, this, hcs]
    rw [hfold, ih vs' (k + 1) _ hv2 (fun c' h' => hc c' (by simp [h'])) (by
      simp only [List.length_append, List.length_take, List.length_drop, hcs]
      rw [show k + 1 + cs.length = k + (cs.length + 1) by omega, ← hl]; omega)]
    congr 2
    have e : (List.take (k * sz) acc ++ c).length = (k + 1) * sz := by
      rw [List.length_append, List.length_take, hcs, Nat.succ_mul]; omega
    rw [List.take_append_of_le_length (by omega), List.take_of_length_le (by omega)]
    simp
theorem run_slit {t e sz bytes : Nat} {z : Value} (T : TSlice P t e sz bytes z) {len : Nat} {parts : Array (Nat × Operand)} {vs : List Value} {cs : List (List Value)} {ρ : Operand → Value} (hi : parts.toList.map (·.1) = List.range len) (hv : parts.toList.map (fun x => ρ x.2) = vs) (hc : vs.map (fun v => v.cells.toList) = cs) (hsz : ∀ c ∈ cs, c.length = sz)
    (hb : len * sz ≤ 16777216) (w : World) (dd : Option Nat) (p : String) (af : Array Edge) (g : Option (Nat × Bool)) :
    (execOp ρ ⟨dd, .buildSlice t len parts, ty, p, af, g⟩).run P w = .ok (.value (.slice (some ⟨w.heap.size, 0, none⟩) len len)) (w.alloc (.cells cs.flatten.toArray e)) := by
  have hlen : parts.toList.length = len := by
    have := congrArg List.length hi
    simpa using this
  have hvl : vs.length = len := by rw [← hv, List.length_map, hlen]
  have hcl : cs.length = len := by rw [← hc, List.length_map, hvl]
  have hparts : (parts.map fun x => (x.1, ρ x.2)).toList = (vs.zipIdx 0).map fun x => (x.2, x.1) := by
    rw [Array.toList_map]
    apply List.ext_getElem
    · simp [hvl, ← hlen]
    · intro j h1 h2
      have a1 : (parts.toList.map (·.1))[j]'(by simpa using h1) = j := by simp [hi]
      have a2 : (parts.toList.map (fun x => ρ x.2))[j]'(by simpa using h1) = vs[j]'(by simpa using h2) := by simp [hv]
      simp only [List.getElem_map] at a1 a2
      simp only [List.getElem_map, List.getElem_zipIdx, a1, a2, Nat.zero_add]
  obtain ⟨i0, hi0, hz0, hz1, hz2⟩ := info_parts T.ty.inf
  have hzv : (zeroValue e).run P w = .ok z w := by simp [zeroValue, typeInfo, program, Sem.run_bind, Sem.run, hi0, hz0, Result.andThen]
  have hfill : ∀ zero : Array Value, Instr.fill (fun i => some (i * sz, sz)) ((Array.range (len * sz)).map (zero[· % zero.size]!)) (parts.map fun x => (x.1, ρ x.2)).toList = some cs.flatten.toArray := by
    intro zero
    have := fillS sz cs vs 0 ((Array.range (len * sz)).map (zero[· % zero.size]!)).toList hc hsz (by simp [hcl])
    rw [hparts]
    simp only [Nat.zero_mul, List.take_zero, List.nil_append] at this
    rw [← this, Array.toArray_toList]
  have hb' : ¬ len * sz > 2 ^ 24 := by
    have : (2 : Nat) ^ 24 = 16777216 := by decide
    omega
  have hmap : Array.map (fun x => match x with | (i, x) => (i, ρ x)) parts = parts.map fun x => (x.1, ρ x.2) := rfl
  simp only [execOp, hmap, Instr.buildSlice, Sem.run_bind, T.und, T.size, Result.andThen, if_neg hb', Sem.run_pure]
  by_cases h0 : len * sz = 0
  · simp only [if_pos h0, Sem.run_pure, hfill]
    simp [newRow, newObj, Sem.run_bind, Sem.run, Result.andThen]
  · simp only [if_neg h0, Sem.run_bind, hzv, Result.andThen, Sem.run_pure, hfill]
    simp [newRow, newObj, Sem.run_bind, Sem.run, Result.andThen]
theorem OKx_slit {t e sz bytes : Nat} {z : Value} [T : TSlice P t e sz bytes z] {len : Nat} {parts : Array (Nat × Operand)} {vs : List Value} {cs : List (List Value)} [hE : Keeps w0 L Lw] (xs : List Value) (hi : parts.toList.map (·.1) = List.range len) (hv : parts.toList.map (fun x => rv n F x.2) = vs) (hc : vs.map (fun v => v.cells.toList) = cs) (hsz : (cs.all fun c => Nat.beq c.length sz) = true) (hx : cs.flatten = xs)
    (hb : Nat.ble (len * sz) 16777216 = true) (kk : ∀ g, OKx P n w0 (.seq Lw) ops K rest (updo F d (.slice (some ⟨g, 0, none⟩) len len)) (.row e sz (.slice (some ⟨g, 0, none⟩) len len) len xs :: L)) :
    OKx P n w0 (.seq Lw) ops K (⟨d, .buildSlice t len parts, ty, pos, aft, none⟩ :: rest) F L := by
  have hsz' : ∀ c ∈ cs, c.length = sz := fun c hc' => Nat.eq_of_beq_eq_true (List.all_eq_true.1 hsz c hc')
  have hb' : len * sz ≤ 16777216 := by rwa [Nat.ble_eq] at hb
  have hcl : cs.length = len := by
    have h1 := congrArg List.length hi
    have h2 := congrArg List.length hv
    have h3 := congrArg List.length hc
    simp at h1 h2 h3
    omega
  have hxl : xs.length = len * sz := by
    rw [← hx, List.length_flatten, ← hcl]
    clear hx hc hi hv hsz hcl hb hb'
    induction cs with
    | nil => simp
    | cons c cs ih => simp [hsz' c (by simp), ih (fun c h => hsz' c (by simp [h])), Nat.succ_mul, Nat.add_comm]
  have hm : len ≤ maxLen := by
    have := T.ty.pos
    have h1 : len * 1 ≤ len * sz := Nat.mul_le_mul_left _ this
    unfold maxLen; omega
  refine OKx_act hE.ent fun w hp => ⟨_, _, _, run_slit T hi hv hc hsz' hb' w _ _ _ _, ?_, kk w.heap.size⟩
  rw [hx]
  have := hp.lit e sz xs.toArray len hm (by simpa using hxl)
  simpa using this
theorem OKx_slit1 {t e bytes : Nat} {z : Value} [T : TSlice P t e 1 bytes z] {x : Operand} {v : Value} [hE : Keeps w0 L Lw] (hx : rv n F x = v) (hc : v.cells = #[v]) (kk : ∀ g, OKx P n w0 (.seq Lw) ops K rest (updo F d (.slice (some ⟨g, 0, none⟩) 1 1)) (.row e 1 (.slice (some ⟨g, 0, none⟩) 1 1) 1 [v] :: L)) :
    OKx P n w0 (.seq Lw) ops K (⟨d, .buildSlice t 1 #[(0, x)], ty, pos, aft, none⟩ :: rest) F L :=
  OKx_slit (sz := 1) [v] rfl (by simp only [List.map]; rw [hx]) (by simp only [List.map]; rw [hc]) rfl rfl rfl kk
theorem OKx_make {l c : Operand} {t e bytes : Nat} {z : Value} [T : TSlice P t e 1 bytes z] {kl kc : IntKind} {N : Nat} [hE : Keeps w0 L Lw] (hl : rv n F l = .int kl (N : Int)) (hc : rv n F c = .int kc (N : Int)) (hz : z.cells = #[z]) (hb : bytes * N ≤ 281474976710656) (hn : N ≤ 9223372036854775807)
    (kk : ∀ g, OKx P n w0 (.seq Lw) ops K rest (updo F d (.slice (some ⟨g, 0, none⟩) N N)) (.row e 1 (.slice (some ⟨g, 0, none⟩) N N) N (List.replicate N z) :: L)) :
    OKx P n w0 (.seq Lw) ops K (⟨d, .makeSlice t l c, ty, pos, aft, none⟩ :: rest) F L := by
  refine OKx_actW hE.ent fun w a hfr hp => wp_of_list (ops := ops) rfl ?_
  obtain ⟨i0, hi0, hz0, hz1, hz2⟩ := info_parts T.ty.inf
  refine wpList_make_full w rfl l c t rfl w0.heap.size e i0 z 1 T.ty.und hi0 hz0 hz1 kl kc _ _ N (by rw [hfr.eval]; exact hl) (by rw [hfr.eval]; exact hc) rfl rfl (by rw [hz2]; exact hb) (by unfold maxLen; omega) hp.base ?_
  intro w' hown hg
  rw [hz, Nat.mul_one, toList_madeCells_one] at hown
  have hp' := hp.fresh (r := .row e 1 (.slice (some ⟨w.heap.size, 0, .none⟩) N N) N (List.replicate N z)) hown ⟨hg.os, hg.tape, hg.output, hg.size, fun k hk => hg.block k hk (by simp)⟩ (fun k hk => by simp [Res.blk, Value.ownBlock] at hk; omega)
  exact ⟨rfl, (kk w.heap.size).use w' _ (hfr.put d _) hp'⟩
theorem OKx_ldI {t : TypeId} {z : Value} [T : TOne P t z] {x : Operand} {g k : Nat} (i : Nat) {e : TypeId} {N cap : Nat} {xs : List Int} (hx : rv n F x = .pointer (some ⟨g, k, none⟩)) (hi : L[i]? = some (.row e 1 (.slice (some ⟨g, 0, none⟩) N cap) N (ints xs))) (hk : k < N)
    (kk : OKx P n w0 m ops K rest (updo F d (.int .i64 (xs.getD k 0))) L) : OKx P n w0 m ops K (⟨d, .load t x, ty, pos, aft, none⟩ :: rest) F L :=
  OKx_still (fun w hp _ _ _ _ => run_load1 T hx (((hp.rowAt i hi).1 k (by omega)).trans (by
    have ho : w.ownsRow w0.heap.size e 1 (.slice (some ⟨g, 0, none⟩) N cap) N (ints xs) := hp.ok _ (List.mem_of_getElem? hi)
    have hl := ho.1
    simp only [ints, List.length_map] at hl
    have : k < xs.length := by omega
    simp [ints, this])) _ _ _ _) kk
theorem OKx_stI {t : TypeId} {z : Value} [T : TOne P t z] {x y : Operand} {g k : Nat} {v : Int} [hE : Keeps w0 L Lw] (i : Nat) {e : TypeId} {N cap : Nat} {xs : List Int} {L' : List Res} (hx : rv n F x = .pointer (some ⟨g, k, none⟩)) (hy : rv n F y = .int .i64 v) (hi : L[i]? = some (.row e 1 (.slice (some ⟨g, 0, none⟩) N cap) N (ints xs))) (hk : k < N)
    (hL : L.set i (.row e 1 (.slice (some ⟨g, 0, none⟩) N cap) N (ints (xs.set k v))) = L') (kk : OKx P n w0 (.seq Lw) ops K rest (updo F d undef) L') : OKx P n w0 (.seq Lw) ops K (⟨d, .store t x y, ty, pos, aft, none⟩ :: rest) F L :=
  OKx_stW i hx hy rfl rfl hi hk (ints_set xs k v) hL kk
theorem OKx_stBo {t : TypeId} {z : Value} [T : TOne P t z] {x y : Operand} {g k : Nat} {v : Bool} [hE : Keeps w0 L Lw] (i : Nat) {e : TypeId} {N cap : Nat} {xs : List Bool} {L' : List Res} (hx : rv n F x = .pointer (some ⟨g, k, none⟩)) (hy : rv n F y = .bool v) (hi : L[i]? = some (.row e 1 (.slice (some ⟨g, 0, none⟩) N cap) N (bools xs))) (hk : k < N)
    (hL : L.set i (.row e 1 (.slice (some ⟨g, 0, none⟩) N cap) N (bools (xs.set k v))) = L') (kk : OKx P n w0 (.seq Lw) ops K rest (updo F d undef) L') : OKx P n w0 (.seq Lw) ops K (⟨d, .store t x y, ty, pos, aft, none⟩ :: rest) F L :=
  OKx_stW i hx hy rfl rfl hi hk (bools_set xs k v) hL kk
theorem OKx_appI {s x : Operand} {t : TypeId} {e e' bytes : Nat} {z : Value} [T : TSlice P t e 1 bytes z] [hE : Keeps w0 L Lw] (i j : Nat) {v : Value} {y : Int} {N g c : Nat} {xs : List Int}
    (hs : rv n F s = v) (hx : rv n F x = .slice (some ⟨g, 0, none⟩) 1 c) (hi : L[i]? = some (.row e 1 v N (ints xs))) (hj : L[j]? = some (.row e' 1 (.slice (some ⟨g, 0, none⟩) 1 c) 1 [.int .i64 y]))
    (hb : (N + 1) * bytes ≤ 140737488355328) (hN : N + 1 ≤ 9223372036854775807)
    (kk : ∀ g' cap, OKx P n w0 (.seq Lw) ops K rest (updo F d (.slice (some ⟨g', 0, none⟩) (N + 1) cap)) (L.set i (.row e 1 (.slice (some ⟨g', 0, none⟩) (N + 1) cap) (N + 1) (ints (xs ++ [y]))))) :
    OKx P n w0 (.seq Lw) ops K (⟨d, .call { callee := .builtin .append, args := #[s, x], argTypes := #[t, t] }, ty, pos, aft, none⟩ :: rest) F L :=
  OKx_append1 i j hs hx hi hj rfl hb hN (fun g' cap => by rw [ints_snoc]; exact kk g' cap)
theorem OKx_ldBo {t : TypeId} {z : Value} [T : TOne P t z] {x : Operand} {g k : Nat} (i : Nat) {e : TypeId} {N cap : Nat} {xs : List Bool} (hx : rv n F x = .pointer (some ⟨g, k, none⟩)) (hi : L[i]? = some (.row e 1 (.slice (some ⟨g, 0, none⟩) N cap) N (bools xs))) (hk : k < N)
    (kk : OKx P n w0 m ops K rest (updo F d (.bool (xs.getD k false))) L) : OKx P n w0 m ops K (⟨d, .load t x, ty, pos, aft, none⟩ :: rest) F L :=
  OKx_still (fun w hp _ _ _ _ => run_load1 T hx (((hp.rowAt i hi).1 k (by omega)).trans (by
    have ho : w.ownsRow w0.heap.size e 1 (.slice (some ⟨g, 0, none⟩) N cap) N (bools xs) := hp.ok _ (List.mem_of_getElem? hi)
    have hl := ho.1
    simp only [bools, List.length_map] at hl
    have : k < xs.length := by omega
    simp [bools, this])) _ _ _ _) kk
def structOffs (P : Program) (t : TypeId) : Option (List (Nat × Nat)) :=
  match P.underlying t with
  | some (.struct fields) => fields.toList.mapM fun f => (P.info? f.type).map fun i => (f.offset, i.size)
  | _ => none
class TStruct (P : Program) (t : TypeId) (offs : outParam (List (Nat × Nat))) : Prop where
  at' : structOffs P t = some offs
theorem run_places (w : World) : ∀ (fs : List Field) (offs : List (Nat × Nat)), fs.mapM (fun f => (P.info? f.type).map fun i => (f.offset, i.size)) = some offs →
    (fs.mapM fun (f : Field) => (do pure (f.offset, ← sizeOf f.type) : Sem (Nat × Nat))).run P w = .ok offs w := by
  intro fs
  induction fs with
  | nil => intro offs h; simp at h; subst h; rfl
  | cons f fs ih =>
    intro offs h
    simp only [List.mapM_cons] at h
    cases hi : P.info? f.type with
    | none => rw [hi] at h; simp at h
    | some i =>
      rw [hi] at h
      cases hr : fs.mapM (fun f => (P.info? f.type).map fun i => (f.offset, i.size)) with
      | none => rw [hr] at h; simp at h
      | some r =>
        rw [hr] at h
        simp at h
        subst h
        have hs : (sizeOf f.type).run P w = .ok i.size w := by simp [sizeOf, typeInfo, program, Sem.run_bind, Sem.run, hi, Result.andThen]
        simp only [List.mapM_cons, Sem.run_bind, hs, Result.andThen, Sem.run_pure, ih r hr]
theorem fill_congr (p q : Nat → Option (Nat × Nat)) : ∀ (l : List (Nat × Value)) (acc : Array Value), (∀ x ∈ l, p x.1 = q x.1) → Instr.fill p acc l = Instr.fill q acc l := by
  intro l
  induction l with
  | nil => intro acc _; rfl
  | cons x l ih =>
    intro acc h
    have h0 := h x (by simp)
    obtain ⟨i, v⟩ := x
    simp only [Instr.fill]
    simp only at h0
    rw [h0]
    cases q i with
    | none => rfl
    | some pl =>
      simp only
      split
      · rfl
      · exact ih _ (fun y hy => h y (by simp [hy]))
theorem flat1 : ∀ vs : List Value, (vs.map fun v => [v]).flatten = vs
  | [] => rfl
  | v :: vs => by simp only [List.map_cons, List.flatten_cons, flat1 vs]; rfl
theorem run_build1 {t sz : Nat} {zs : List Value} (T : TAgg P t sz zs) {offs : List (Nat × Nat)} (S : TStruct P t offs) {parts : Array (Nat × Operand)} {vs : List Value} {ρ : Operand → Value} (ho : offs = (List.range vs.length).map fun i => (i, 1)) (hz : zs.length = vs.length)
    (hp : parts.toList.map (fun x => (x.1, ρ x.2)) = (vs.zipIdx 0).map fun x => (x.2, x.1)) (hc : ∀ v ∈ vs, v.cells = #[v]) (w : World) (dd : Option Nat) (p : String) (af : Array Edge) (g : Option (Nat × Bool)) :
    (execOp ρ ⟨dd, .build t parts, ty, p, af, g⟩).run P w = .ok (.value (.agg vs.toArray)) w := by
  have h0 := S.at'
  unfold structOffs at h0
  split at h0
  · rename_i fields hu
    have hund : (underlying t).run P w = .ok (.struct fields) w := by simp [underlying, program, Sem.run_bind, Sem.run, hu, Result.andThen]
    have hpl := run_places w fields.toList offs h0
    have hpl2 : (fields.mapM fun (f : Field) => (do pure (f.offset, ← sizeOf f.type) : Sem (Nat × Nat))).run P w = .ok offs.toArray w := by
      rw [Array.mapM_eq_mapM_toList]
      simp only [Sem.run_map, hpl, Result.andThen]
    have hparts : (parts.map fun x => (x.1, ρ x.2)).toList = (vs.zipIdx 0).map fun x => (x.2, x.1) := by rw [Array.toList_map, hp]
    have hmap : Array.map (fun x => match x with | (i, x) => (i, ρ x)) parts = parts.map fun x => (x.1, ρ x.2) := rfl
    have hcs : vs.map (fun v => v.cells.toList) = vs.map fun v => [v] := List.map_congr_left fun v hv => by rw [hc v hv]
    have hfl : (vs.map fun v => [v]).flatten = vs := flat1 vs
    have hfill : Instr.fill (offs.toArray[·]?) zs.toArray (parts.map fun x => (x.1, ρ x.2)).toList = some vs.toArray := by
      rw [hparts, fill_congr _ (fun i => some (i * 1, 1))]
      · rw [fillS 1 (vs.map fun v => [v]) vs 0 zs hcs (by simp) (by simp [hz])]
        simp [hfl]
      · intro x hx
        simp only [List.mem_map] at hx
        obtain ⟨y, hy, rfl⟩ := hx
        have hlt : y.2 < vs.length := by
          have := List.mem_zipIdx hy
          omega
        simp [ho, hlt]
    simp only [execOp, hmap, Instr.build, Sem.run_bind, T.zero, Result.andThen, Value.cells, hund, hpl2, hfill, Sem.run_pure]
  · cases h0
theorem OKx_build3 {t sz : Nat} {z1 z2 z3 : Value} [T : TAgg P t sz [z1, z2, z3]] [S : TStruct P t [(0, 1), (1, 1), (2, 1)]] {x1 x2 x3 : Operand} {v1 v2 v3 : Value} (h1 : rv n F x1 = v1) (h2 : rv n F x2 = v2) (h3 : rv n F x3 = v3) (c1 : v1.cells = #[v1]) (c2 : v2.cells = #[v2]) (c3 : v3.cells = #[v3])
    (k : OKx P n w0 m ops K rest (updo F d (.agg #[v1, v2, v3])) L) : OKx P n w0 m ops K (⟨d, .build t #[(0, x1), (1, x2), (2, x3)], ty, pos, aft, none⟩ :: rest) F L :=
  OKx_still (fun w _ _ _ _ _ => run_build1 T S (vs := [v1, v2, v3]) rfl rfl (by simp [h1, h2, h3]) (by simp [c1, c2, c3]) w _ _ _ _) k
theorem Hp.setBoxAll {B : Nat} {w0 w : World} (h : Hp B w0 w L) {i : Nat} {e : TypeId} {g : Nat} {cs : List Value} (hi : L[i]? = some (.box e g cs)) (cs' : List Value) (hl : cs'.length = cs.length) :
    Hp B w0 (w.setRow g cs'.toArray) (L.set i (.box e g cs')) := by
  have ho : B ≤ g ∧ w.heap[g]? = some (.cells cs.toArray e (0, 0)) := h.ok _ (List.mem_of_getElem? hi)
  exact h.turn hi (r' := .box e g cs') ⟨rfl, rfl, rfl, by simp, fun k _ hk => setRow_other w g k _ (fun e => hk (by simp [Res.blk, e]))⟩ ⟨ho.1, setRow_heap w g cs.toArray _ e _ ho.2⟩ (fun k hk => .inl hk)
theorem OKx_stBA {t sz : Nat} {zs : List Value} [T : TAgg P t sz zs] [hE : Keeps w0 L Lw] (hsz : (P.info? t).map (·.size) = some sz) {x y : Operand} {g : Nat} {cs' : Array Value} (i : Nat) {e : TypeId} {cs : List Value} {L' : List Res} (hx : rv n F x = .pointer (some ⟨g, 0, none⟩)) (hy : rv n F y = .agg cs') (h1 : cs'.toList.all (·.oneCell') = true) (hi : L[i]? = some (.box e g cs)) (hl : Nat.beq cs'.toList.length cs.length = true) (hl2 : Nat.beq cs'.toList.length sz = true)
    (hL : L.set i (.box e g cs'.toList) = L') (kk : OKx P n w0 (.seq Lw) ops K rest (updo F d undef) L') : OKx P n w0 (.seq Lw) ops K (⟨d, .store t x y, ty, pos, aft, none⟩ :: rest) F L := by
  subst hL
  have hl' := Nat.eq_of_beq_eq_true hl
  have hl2' := Nat.eq_of_beq_eq_true hl2
  refine OKx_actW hE.ent fun w a hfr hp => ?_
  have ho : w0.heap.size ≤ g ∧ w.heap[g]? = some (.cells cs.toArray e (0, 0)) := hp.ok _ (List.mem_of_getElem? hi)
  refine wp_store_row t x y rfl g cs' (by rw [hfr.eval]; exact hx) (by rw [hfr.eval]; exact hy) e cs.toArray ho.2 (by rw [hsz, ← hl2']; simp) (by simp only [List.size_toArray]; rw [← hl']; simp) (by rw [← h1]; simp) ?_
  refine kk.use _ _ (hfr.put d _) ?_
  have := hp.setBoxAll hi cs'.toList hl'
  simpa using this
theorem OKx_slit2 {t e bytes : Nat} {z : Value} [T : TSlice P t e 1 bytes z] {x1 x2 : Operand} {v1 v2 : Value} [hE : Keeps w0 L Lw] (h1 : rv n F x1 = v1) (h2 : rv n F x2 = v2) (c1 : v1.cells = #[v1]) (c2 : v2.cells = #[v2]) (kk : ∀ g, OKx P n w0 (.seq Lw) ops K rest (updo F d (.slice (some ⟨g, 0, none⟩) 2 2)) (.row e 1 (.slice (some ⟨g, 0, none⟩) 2 2) 2 [v1, v2] :: L)) :
    OKx P n w0 (.seq Lw) ops K (⟨d, .buildSlice t 2 #[(0, x1), (1, x2)], ty, pos, aft, none⟩ :: rest) F L :=
  OKx_slit (sz := 1) (vs := [v1, v2]) (cs := [[v1], [v2]]) [v1, v2] rfl (by simp [h1, h2]) (by simp [c1, c2]) rfl rfl rfl kk
end
end Go.Proofs.Ytmclgfipdgmomaa
