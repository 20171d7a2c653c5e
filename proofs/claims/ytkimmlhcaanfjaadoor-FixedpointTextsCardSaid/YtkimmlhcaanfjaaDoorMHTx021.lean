/-
  Part 1 of the proof: Hp, Data, Spl, Mix. No statement of the seat is proved here.
-/
import Derived.Test.YtkimmlhcaanfjaaDoorRows
import Derived.WalkKit
import Derived.WalkSpells
import Derived.WalkLawsBesides
import Derived.Lib.Hide
import Derived.Maps.AppendAt
import Derived.Deep.RegionHeld3
import Derived.Lib.IndexBytes
import Derived.Lib.IndexLaws
import Derived.Lib.CutLaws
import Derived.Lib.SplitLaws
import Derived.Deep.Quiet
import Derived.StillTail
namespace Go.Proofs.YtkimmlhcaanfjaaDoor
open Go.RowKit
structure Sl (w : World) (v : Value) (sz n : Nat) (f : Nat → Value) : Prop where
  len : n ≤ 140737488355328
  out : ∃ a cap, v = .slice a n cap ∧ (n = 0 ∨ ∃ b off, a = some ⟨b, off, none⟩ ∧ ∀ j, j < n * sz → w.cell? ⟨b, off + j, none⟩ = some (f j))
  room : ∀ a m c, v = .slice a m c → m ≤ c
inductive Res where
  | row (e : TypeId) (sz : Nat) (v : Value) (n : Nat) (xs : List Value)
  | box (e : TypeId) (g : Nat) (cs : List Value)
  | obj (g : Nat) (p : Obj → Prop)
  | mark (g : Nat)
def Res.blk : Res → Option Nat
  | .row _ _ v _ _ => v.ownBlock
  | .box _ g _ => some g
  | .obj g _ => some g
  | .mark g => some g
def Res.ok (w : World) (B : Nat) : Res → Prop
  | .row e sz v n xs => w.ownsRow B e sz v n xs
  | .box e g cs => B ≤ g ∧ w.heap[g]? = some (.cells cs.toArray e (0, 0))
  | .obj g p => B ≤ g ∧ ∃ o, w.heap[g]? = some o ∧ p o
  | .mark g => B ≤ g ∧ w.heap[g]? = some (.deferred (some []))
structure Hp (B : Nat) (w0 w : World) (L : List Res) : Prop where
  below : Below B w0 w
  base : B ≤ w.heap.size
  ok : ∀ r ∈ L, r.ok w B
  dj : L.Pairwise (fun r s => r.blk = none ∨ r.blk ≠ s.blk)
theorem Res.ok.lt {w : World} {B : Nat} {r : Res} (h : r.ok w B) {k : Nat} (hk : r.blk = some k) : B ≤ k ∧ k < w.heap.size := by
  cases r with
  | row e sz v n xs => exact World.ownsRow.lt h k hk
  | box e g cs =>
    simp only [Res.blk, Option.some.injEq] at hk; subst hk
    exact ⟨h.1, (Array.getElem?_eq_some_iff.1 h.2).1⟩
  | obj g p =>
    simp only [Res.blk, Option.some.injEq] at hk; subst hk
    obtain ⟨h1, o, h2, _⟩ := h
    exact ⟨h1, (Array.getElem?_eq_some_iff.1 h2).1⟩
  | mark g =>
    simp only [Res.blk, Option.some.injEq] at hk; subst hk
    exact ⟨h.1, (Array.getElem?_eq_some_iff.1 h.2).1⟩
theorem Res.ok.of_block {w w' : World} {B : Nat} {r : Res} (h : r.ok w B) (hb : ∀ k, r.blk = some k → w'.heap[k]? = w.heap[k]?) : r.ok w' B := by
  cases r with
  | row e sz v n xs =>
    refine ⟨h.1, ?_⟩
    rcases h.2 with h2 | ⟨g, cap, cur, rfl, hg, hh, r⟩
    · exact .inl h2
    · exact .inr ⟨g, cap, cur, rfl, hg, by rw [hb g rfl]; exact hh, r⟩
  | box e g cs => exact ⟨h.1, by rw [hb g rfl]; exact h.2⟩
  | obj g p =>
    obtain ⟨h1, o, h2, h3⟩ := h
    exact ⟨h1, o, by rw [hb g rfl]; exact h2, h3⟩
  | mark g => exact ⟨h.1, by rw [hb g rfl]; exact h.2⟩
variable {B : Nat} {w0 w w' : World} {L : List Res}
theorem Hp.refl (w : World) : Hp w.heap.size w w [] := ⟨Below.refl _ _, Nat.le_refl _, by simp, List.Pairwise.nil⟩
theorem Hp.grow (h : Hp B w0 w L) (hb : Below w.heap.size w w') : Hp B w0 w' L :=
  ⟨h.below.trans (hb.mono h.base), Nat.le_trans h.base hb.size, fun r hr => (h.ok r hr).of_block fun k hk => hb.block k ((h.ok r hr).lt hk).2, h.dj⟩
theorem Hp.drew (h : Hp B w0 w L) : Hp B w0 w.drew L :=
  ⟨h.below.drew, h.base, fun r hr => (h.ok r hr).of_block fun _ _ => rfl, h.dj⟩
theorem Hp.drewN (h : Hp B w0 w L) (n : Nat) : Hp B w0 (w.drewN n) L :=
  ⟨below_drewN h.below n, h.base, fun r hr => (h.ok r hr).of_block fun _ _ => rfl, h.dj⟩
theorem Hp.call (h : Hp B w0 w L) {L' : List Res} (hb : Hp w.heap.size w w' L') : Hp B w0 w' (L' ++ L) := by
  have hg := h.grow hb.below
  refine ⟨hg.below, hg.base, ?_, ?_⟩
  · intro r hr
    rcases List.mem_append.1 hr with hr | hr
    · have := hb.ok r hr
      cases r with
      | row e sz v n xs =>
        refine ⟨this.1, ?_⟩
        rcases this.2 with h2 | ⟨g, cap, cur, rfl, hgg, rest⟩
        · exact .inl h2
        · exact .inr ⟨g, cap, cur, rfl, Nat.le_trans h.base hgg, rest⟩
      | box e g cs => exact ⟨Nat.le_trans h.base this.1, this.2⟩
      | obj g p => exact ⟨Nat.le_trans h.base this.1, this.2⟩
      | mark g => exact ⟨Nat.le_trans h.base this.1, this.2⟩
    · exact hg.ok r hr
  · refine List.pairwise_append.2 ⟨hb.dj, hg.dj, ?_⟩
    intro a ha b hb'
    cases hk : a.blk with
    | none => exact .inl rfl
    | some k =>
      right
      intro e
      have h1 := (hb.ok a ha).lt hk
      have h2 := (h.ok b hb').lt e.symm
      omega
theorem Hp.sub (h : Hp B w0 w L) {L' : List Res} (hs : L'.Sublist L) : Hp B w0 w L' :=
  ⟨h.below, h.base, fun r hr => h.ok r (hs.subset hr), h.dj.sublist hs⟩
theorem Hp.perm (h : Hp B w0 w L) {L' : List Res} (hs : L'.Perm L) : Hp B w0 w L' :=
  ⟨h.below, h.base, fun r hr => h.ok r (hs.subset hr), hs.symm.pairwise h.dj (fun {a b} hab => by
    rcases hab with h1 | h1
    · by_cases hb : b.blk = none
      · exact .inl hb
      · right; rw [h1]; exact hb
    · right; exact fun e => h1 e.symm)⟩
theorem Hp.drop1 {a : Res} (h : Hp B w0 w (a :: L)) : Hp B w0 w L := h.sub (List.sublist_cons_self a L)
theorem Hp.none (h : Hp B w0 w L) : Hp B w0 w [] := h.sub (List.nil_sublist L)
theorem Hp.cons (h : Hp B w0 w L) {r : Res} (hr : r.ok w B) (hd : ∀ s ∈ L, r.blk = .none ∨ r.blk ≠ s.blk) : Hp B w0 w (r :: L) :=
  ⟨h.below, h.base, by
    intro s hs
    rcases List.mem_cons.1 hs with rfl | hs
    · exact hr
    · exact h.ok s hs, List.pairwise_cons.2 ⟨hd, h.dj⟩⟩
theorem Hp.fresh (h : Hp B w0 w L) {r : Res} (hr : r.ok w' B) (hb : Below w.heap.size w w') (hlt : ∀ k, r.blk = some k → w.heap.size ≤ k) : Hp B w0 w' (r :: L) := by
  refine (h.grow hb).cons hr fun s hs => ?_
  cases hk : r.blk with
  | none => exact .inl rfl
  | some k =>
    right
    intro e
    have := (h.ok s hs).lt e.symm
    have := hlt k hk
    omega
theorem Hp.box (h : Hp B w0 w L) (e : TypeId) (cs : Array Value) {g : Nat} (hg : w.heap.size = g := by first | rfl | simp) : Hp B w0 (w.alloc (.cells cs e)) (.box e g cs.toList :: L) := by
  subst hg
  exact h.fresh ⟨h.base, (heap_alloc_new w _).trans (by simp)⟩ ((Below.refl _ _).alloc (Nat.le_refl _) _) (fun k hk => by simp [Res.blk] at hk;omega)
theorem Hp.lit (h : Hp B w0 w L) (e : TypeId) (sz : Nat) (cs : Array Value) (n : Nat) (hm : n ≤ maxLen) (hs : cs.size = n * sz) {g : Nat} (hg : w.heap.size = g := by first | rfl | simp) :
    Hp B w0 (w.alloc (.cells cs e)) (.row e sz (.slice (some ⟨g, 0, .none⟩) n n) n cs.toList :: L) := by
  subst hg
  exact h.fresh (World.ownsRow_lit w cs n h.base hm hs) ((Below.refl _ _).alloc (Nat.le_refl _) _) (fun k hk => by simp [Res.blk, Value.ownBlock] at hk;omega)
theorem Hp.nil (h : Hp B w0 w L) (e : TypeId) (sz : Nat) : Hp B w0 w (.row e sz (.slice .none 0 0) 0 [] :: L) :=
  h.cons (World.ownsRow_nil w B e sz) fun _ _ => .inl rfl
theorem Hp.turn (h : Hp B w0 w L) {i : Nat} {r r' : Res} (hi : L[i]? = some r) (hg : w.grownBy w' r.blk) (hr : r'.ok w' B) (hb : ∀ k, r'.blk = some k → r.blk = some k ∨ w.heap.size ≤ k) : Hp B w0 w' (L.set i r') := by
  have hbelow : Below B w w' := ⟨hg.os, hg.tape, hg.output, hg.size, fun k hk => hg.block k (Nat.lt_of_lt_of_le hk h.base) (fun e => by
    have := (h.ok r (List.mem_of_getElem? hi)).lt e.symm;omega)⟩
  have hlt : i < L.length := (List.getElem?_eq_some_iff.1 hi).1
  have hir : L[i] = r := (List.getElem?_eq_some_iff.1 hi).2
  have hd : ∀ j, (hj : j < L.length) → j ≠ i → (r.blk = .none ∨ r.blk ≠ L[j].blk) ∧ (L[j].blk = .none ∨ L[j].blk ≠ r.blk) := by
    intro j hj hne
    have sym : ∀ {a b : Res}, (a.blk = .none ∨ a.blk ≠ b.blk) → (b.blk = .none ∨ b.blk ≠ a.blk) := by
      intro a b hab
      by_cases hb : b.blk = .none
      · exact .inl hb
      · rcases hab with h1 | h1
        · right; rw [h1]; exact hb
        · right; exact fun e => h1 e.symm
    have hp := List.pairwise_iff_getElem.1 h.dj
    rcases Nat.lt_or_ge i j with hij | hij
    · have := hp i j hlt hj hij
      rw [hir] at this
      exact ⟨this, sym this⟩
    · have := hp j i hj hlt (by omega)
      rw [hir] at this
      exact ⟨sym this, this⟩
  have hnew : ∀ j, (hj : j < L.length) → j ≠ i → r'.blk = .none ∨ r'.blk ≠ L[j].blk := by
    intro j hj hne
    cases hk : r'.blk with
    | none => exact .inl rfl
    | some k =>
      right
      intro e
      rcases hb k hk with h1 | h1
      · have := (hd j hj hne).1
        rw [h1, ← e] at this
        simp at this
      · have := (h.ok L[j] (List.getElem_mem hj)).lt e.symm
        omega
  refine ⟨h.below.trans hbelow, Nat.le_trans h.base hg.size, ?_, ?_⟩
  · intro s hs
    obtain ⟨j, hj, rfl⟩ := List.getElem_of_mem hs
    rw [List.length_set] at hj
    rw [List.getElem_set]
    split
    · exact hr
    · rename_i hne
      refine (h.ok L[j] (List.getElem_mem hj)).of_block fun k hk => hg.block k ((h.ok L[j] (List.getElem_mem hj)).lt hk).2 ?_
      rcases (hd j hj (fun e => hne e.symm)).2 with h1 | h1
      · rw [hk] at h1; cases h1
      · rw [← hk]; exact h1
  · refine List.pairwise_iff_getElem.2 fun a b ha hb' hab => ?_
    rw [List.length_set] at ha hb'
    rw [List.getElem_set, List.getElem_set]
    have hp := List.pairwise_iff_getElem.1 h.dj a b ha hb' hab
    split
    · rw [if_neg (by omega)]
      exact hnew b hb' (by omega)
    · split
      · have := hnew a ha (by omega)
        by_cases hn : L[a].blk = .none
        · exact .inl hn
        · rcases this with h1 | h1
          · right; rw [h1]; exact hn
          · right; exact fun e => h1 e.symm
      · exact hp
theorem Hp.setRow (h : Hp B w0 w L) {i : Nat} {e : TypeId} {sz g n cap : Nat} {xs : List Value} (hi : L[i]? = some (.row e sz (.slice (some ⟨g, 0, .none⟩) n cap) n xs)) (k : Nat) (u : Value) :
    Hp B w0 (w.setCell ⟨g, k, .none⟩ u) (L.set i (.row e sz (.slice (some ⟨g, 0, .none⟩) n cap) n (xs.set k u))) := by
  have ho : w.ownsRow B e sz (.slice (some ⟨g, 0, .none⟩) n cap) n xs := h.ok _ (List.mem_of_getElem? hi)
  have hs := ho.stored k u
  exact h.turn hi hs.2 hs.1 (fun j hj => .inl hj)
theorem Hp.setBox (h : Hp B w0 w L) {i : Nat} {e : TypeId} {g : Nat} {cs : List Value} (hi : L[i]? = some (.box e g cs)) (k : Nat) (u : Value) :
    Hp B w0 (w.setCell ⟨g, k, .none⟩ u) (L.set i (.box e g (cs.set k u))) := by
  have ho : B ≤ g ∧ w.heap[g]? = some (.cells cs.toArray e (0, 0)) := h.ok _ (List.mem_of_getElem? hi)
  refine h.turn hi (r' := .box e g (cs.set k u)) ⟨rfl, rfl, rfl, by simp, fun j _ hj => heap_setCell_other w ⟨g, k, .none⟩ j u (fun e => hj (by simp [Res.blk, e]))⟩ ⟨ho.1, ?_⟩ (fun j hj => .inl hj)
  rw [heap_setCell_same w g k _ e u ho.2]
  simp
theorem Hp.rowAt (h : Hp B w0 w L) (i : Nat) {e : TypeId} {sz g n cap : Nat} {xs : List Value} (hi : L[i]? = some (.row e sz (.slice (some ⟨g, 0, .none⟩) n cap) n xs)) :
    (∀ k, k < n * sz → w.cell? ⟨g, k, .none⟩ = xs[k]?) ∧ (∀ k, w.frozen? ⟨g, k, .none⟩ = false) ∧ B ≤ g ∧ g < w.heap.size := by
  have ho : w.ownsRow B e sz (.slice (some ⟨g, 0, .none⟩) n cap) n xs := h.ok _ (List.mem_of_getElem? hi)
  have hl := ho.lt g rfl
  exact ⟨fun k hk => ho.cellAt k hk, fun k => ho.frozenAt k, hl.1, hl.2⟩
theorem Hp.boxAt (h : Hp B w0 w L) (i : Nat) {e : TypeId} {g : Nat} {cs : List Value} (hi : L[i]? = some (.box e g cs)) :
    (∀ k, w.cell? ⟨g, k, .none⟩ = cs[k]?) ∧ (∀ k, w.frozen? ⟨g, k, .none⟩ = false) ∧ B ≤ g ∧ g < w.heap.size := by
  have ho : B ≤ g ∧ w.heap[g]? = some (.cells cs.toArray e (0, 0)) := h.ok _ (List.mem_of_getElem? hi)
  refine ⟨fun k => ?_, fun k => frozen_of_row w g k _ e ho.2, ho.1, (Array.getElem?_eq_some_iff.1 ho.2).1⟩
  rw [cell_of_row w g k _ e (0, 0) ho.2]
  simp
theorem Hp.rowShape (h : Hp B w0 w L) (i : Nat) {e : TypeId} {sz n : Nat} {v : Value} {xs : List Value} (hi : L[i]? = some (.row e sz v n xs)) :
    ∃ a cap, v = .slice a n cap ∧ (0 < n → ∃ g, a = some ⟨g, 0, .none⟩) ∧ n ≤ 9223372036854775807 := by
  have ho : w.ownsRow B e sz v n xs := h.ok _ (List.mem_of_getElem? hi)
  rcases ho.2 with ⟨hv, h0⟩ | ⟨g, cap, cur, hv, _, _, hnc, hcm, _⟩
  · subst h0
    exact ⟨_, _, hv, fun h => absurd h (by omega), by omega⟩
  · exact ⟨_, cap, hv, fun _ => ⟨g, rfl⟩, by unfold maxLen at hcm;omega⟩
theorem Hp.sl (h : Hp B w0 w L) (i : Nat) {e : TypeId} {sz n : Nat} {v : Value} {xs : List Value} (hi : L[i]? = some (.row e sz v n xs)) (hn : n ≤ 140737488355328) {f : Nat → Value} (hf : ∀ j, j < n * sz → xs[j]? = some (f j)) : Sl w v sz n f := by
  have ho : w.ownsRow B e sz v n xs := h.ok _ (List.mem_of_getElem? hi)
  refine ⟨hn, ?_, ?_⟩
  case refine_2 =>
    intro a m c hv'
    rcases ho.2 with ⟨hv, h0⟩ | ⟨g, cap, cur, hv, _, _, hnc, _⟩
    · rw [hv] at hv'
      simp only [Value.slice.injEq] at hv'
      omega
    · rw [hv] at hv'
      simp only [Value.slice.injEq] at hv'
      omega
  rcases ho.2 with ⟨hv, h0⟩ | ⟨g, cap, cur, rfl, _⟩
  · exact ⟨_, _, by rw [hv, h0], .inl h0⟩
  · exact ⟨_, _, rfl, .inr ⟨g, 0, rfl, fun j hj => by rw [Nat.zero_add, ho.cellAt j hj, hf j hj]⟩⟩
theorem Sl.below {v : Value} {sz n : Nat} {f : Nat → Value} (h : Sl w v sz n f) (hb : Below w.heap.size w w') : Sl w' v sz n f := by
  refine ⟨h.len, ?_, h.room⟩
  obtain ⟨a, cap, hv, hc⟩ := h.out
  refine ⟨a, cap, hv, ?_⟩
  rcases hc with h0 | ⟨b, off, ha, hc⟩
  · exact .inl h0
  · exact .inr ⟨b, off, ha, fun j hj => by
      have h1 := hc j hj
      rw [hb.cell (p := ⟨b, off + j, .none⟩) (World.block_lt_of_cell? w _ h1)]
      exact h1⟩
structure SlTy (P : Program) (t e : TypeId) (sz bytes : Nat) (z : Value) : Prop where
  und : P.underlying t = some (.slice e)
  inf : (P.info? e).map (fun i => (i.zero, i.size, i.bytes)) = some (some z, sz, bytes)
  zs : z.cells.size = sz
  pos : 0 < sz
theorem wpList_append_hp {P : Program} {ops : Array Oper} {rest : List Oper} {o : Oper} {a : Act} {Q : Exit → Act → World → Prop} (hgd : o.guard = .none) (s x : Operand) (t : TypeId)
    (ho : o.op = .call { callee := .builtin .append, args := #[s, x], argTypes := #[t, t] }) {e : TypeId} {sz bytes : Nat} {z : Value} (T : SlTy P t e sz bytes z)
    (h : Hp B w0 w L) (i : Nat) {v : Value} {n : Nat} {xs : List Value} (hi : L[i]? = some (.row e sz v n xs)) (hs : a.eval s = v)
    (ad : Addr) (m c : Nat) (news : List Value) (hx : a.eval x = .slice (some ad) m c) (hl : news.length = m * sz) (hnews : ∀ j u, news[j]? = some u → w.cell? (ad.add j) = some u) (h1 : ∀ u ∈ news, u.oneCell' = true)
    (hbytes : (n + m) * bytes ≤ 140737488355328) (h63 : n + m ≤ 9223372036854775807)
    (hk : ∀ v' w', Hp B w0 w' (L.set i (.row e sz v' (n + m) (xs ++ news))) → (0 < m → ∃ g cap, v' = .slice (some ⟨g, 0, .none⟩) (n + m) cap) → wpList P ops Q rest (a.put o.dst v') w') :
    wpList P ops Q (o :: rest) a w := by
  have hown : w.ownsRow B e sz v n xs := h.ok _ (List.mem_of_getElem? hi)
  obtain ⟨i0, hi0, hz0, hz1, hz2⟩ := info_parts T.inf
  refine wpList_append_own_at w hgd s x t ho B e i0 z sz bytes T.und hi0 hz0 hz1 hz2 T.zs T.pos v n xs hs hown ad m c news hx hl hnews h1 (by unfold maxLen;omega) hbytes h.base ?_
  intro v' w' hown' hg hnil hat
  have hp := h.turn hi hg (r' := .row e sz v' (n + m) (xs ++ news)) hown' (fun k hk => by
    rcases hat with h1 | h1
    · left; show v.ownBlock = some k; rw [← h1]; exact hk
    · right
      have : some k = some w.heap.size := by rw [← h1]; exact hk.symm
      simp only [Option.some.injEq] at this
      omega)
  refine hk v' w' hp fun hm => ?_
  rcases hown'.2 with ⟨_, h0⟩ | ⟨g, cap, cur, hv, _⟩
  · omega
  · exact ⟨g, cap, hv⟩
theorem wpList_append1_hp {P : Program} {ops : Array Oper} {rest : List Oper} {o : Oper} {a : Act} {Q : Exit → Act → World → Prop} (hgd : o.guard = .none) (s x : Operand) (t : TypeId)
    (ho : o.op = .call { callee := .builtin .append, args := #[s, x], argTypes := #[t, t] }) {e : TypeId} {bytes : Nat} {z : Value} (T : SlTy P t e 1 bytes z)
    (h : Hp B w0 w L) (i : Nat) {v : Value} {n : Nat} {xs : List Value} (hi : L[i]? = some (.row e 1 v n xs)) (hs : a.eval s = v)
    (g c : Nat) (y : Value) (hx : a.eval x = .slice (some ⟨g, 0, .none⟩) 1 c) (hnews : w.cell? ⟨g, 0, .none⟩ = some y) (h1 : y.oneCell' = true)
    (hbytes : (n + 1) * bytes ≤ 140737488355328) (h63 : n + 1 ≤ 9223372036854775807)
    (hk : ∀ g' cap w', Hp B w0 w' (L.set i (.row e 1 (.slice (some ⟨g', 0, .none⟩) (n + 1) cap) (n + 1) (xs ++ [y]))) → wpList P ops Q rest (a.put o.dst (.slice (some ⟨g', 0, .none⟩) (n + 1) cap)) w') :
    wpList P ops Q (o :: rest) a w := by
  refine wpList_append_hp hgd s x t ho T h i hi hs ⟨g, 0, .none⟩ 1 c [y] hx rfl ?_ (by simpa using h1) hbytes h63 ?_
  · intro j u hj
    cases j with
    | zero => simp at hj; subst hj; simpa [Addr.add] using hnews
    | succ j => simp at hj
  · intro v' w' hp hf
    obtain ⟨g', cap, rfl⟩ := hf (by omega)
    exact hk g' cap w' hp
end Go.Proofs.YtkimmlhcaanfjaaDoor
namespace Go.Proofs.YtkimmlhcaanfjaaDoor
open Go.RowKit
def ints (xs : List Int) : List Value := xs.map (Value.int .i64)
theorem ints_len (xs : List Int) : (ints xs).length = xs.length := by simp [ints]
theorem ints_get (xs : List Int) (k : Nat) (h : k < xs.length) : (ints xs)[k]? = some (.int .i64 (xs.getD k 0)) := by simp [ints, h]
theorem ints_set (xs : List Int) (k : Nat) (x : Int) : (ints xs).set k (.int .i64 x) = ints (xs.set k x) := by simp [ints, List.map_set]
theorem ints_snoc (xs : List Int) (x : Int) : ints xs ++ [.int .i64 x] = ints (xs ++ [x]) := by simp [ints]
def Ints (w : World) (v : Value) (xs : List Int) : Prop := Sl w v 1 xs.length (fun j => .int .i64 (xs.getD j 0))
def Bools (w : World) (v : Value) (xs : List Bool) : Prop := Sl w v 1 xs.length (fun j => .bool (xs.getD j false))
def Strs (w : World) (v : Value) (xs : List ByteArray) : Prop := Sl w v 1 xs.length (fun j => .string (xs.getD j ByteArray.empty)) ∧ ∀ s ∈ xs, s.size ≤ 140737488355328
def Tabs (w : World) (v : Value) (xs : List (List Int)) : Prop :=
  ∃ vs : List Value, Sl w v 1 xs.length (fun j => vs.getD j undef) ∧ vs.length = xs.length ∧ ∀ j, (h : j < xs.length) → Ints w (vs.getD j undef) xs[j]
structure Stem where
  names : List ByteArray
  ext : List Bool
  par : List (List Int)
def Stm (w : World) (v : Value) (s : Stem) : Prop := ∃ nv ev pv, v = .agg #[nv, ev, pv] ∧ Strs w nv s.names ∧ Bools w ev s.ext ∧ Tabs w pv s.par
section
variable {w w' : World} {v : Value}
theorem Ints.below {xs : List Int} (h : Ints w v xs) (hb : Below w.heap.size w w') : Ints w' v xs := Sl.below h hb
theorem Bools.below {xs : List Bool} (h : Bools w v xs) (hb : Below w.heap.size w w') : Bools w' v xs := Sl.below h hb
theorem Strs.below {xs : List ByteArray} (h : Strs w v xs) (hb : Below w.heap.size w w') : Strs w' v xs := ⟨Sl.below h.1 hb, h.2⟩
theorem Tabs.below {xs : List (List Int)} (h : Tabs w v xs) (hb : Below w.heap.size w w') : Tabs w' v xs := by
  obtain ⟨vs, h1, h2, h3⟩ := h
  exact ⟨vs, h1.below hb, h2, fun j hj => (h3 j hj).below hb⟩
theorem Stm.below {s : Stem} (h : Stm w v s) (hb : Below w.heap.size w w') : Stm w' v s := by
  obtain ⟨nv, ev, pv, hv, h1, h2, h3⟩ := h
  exact ⟨nv, ev, pv, hv, h1.below hb, h2.below hb, h3.below hb⟩
theorem Sl.shape {sz n : Nat} {f : Nat → Value} (h : Sl w v sz n f) : ∃ a cap, v = .slice a n cap ∧ n ≤ 140737488355328 ∧ ∀ j, j < n * sz → ∃ b off, a = some ⟨b, off, none⟩ ∧ w.cell? ⟨b, off + j, none⟩ = some (f j) := by
  obtain ⟨hl, ⟨a, cap, hv, hc⟩, _⟩ := h
  refine ⟨a, cap, hv, hl, fun j hj => ?_⟩
  rcases hc with h0 | ⟨b, off, ha, hc⟩
  · rw [h0, Nat.zero_mul] at hj;omega
  · exact ⟨b, off, ha, hc j hj⟩
theorem Ints.at {xs : List Int} (h : Ints w v xs) : ∃ a cap, v = .slice a xs.length cap ∧ xs.length ≤ 140737488355328 ∧ ∀ j, (hj : j < xs.length) → ∃ b off, a = some ⟨b, off, none⟩ ∧ w.cell? ⟨b, off + j, none⟩ = some (.int .i64 xs[j]) := by
  obtain ⟨a, cap, hv, hl, hc⟩ := Sl.shape h
  refine ⟨a, cap, hv, hl, fun j hj => ?_⟩
  obtain ⟨b, off, ha, hc⟩ := hc j (by omega)
  exact ⟨b, off, ha, by rw [hc]; simp [hj]⟩
theorem Bools.at {xs : List Bool} (h : Bools w v xs) : ∃ a cap, v = .slice a xs.length cap ∧ xs.length ≤ 140737488355328 ∧ ∀ j, (hj : j < xs.length) → ∃ b off, a = some ⟨b, off, none⟩ ∧ w.cell? ⟨b, off + j, none⟩ = some (.bool xs[j]) := by
  obtain ⟨a, cap, hv, hl, hc⟩ := Sl.shape h
  refine ⟨a, cap, hv, hl, fun j hj => ?_⟩
  obtain ⟨b, off, ha, hc⟩ := hc j (by omega)
  exact ⟨b, off, ha, by rw [hc]; simp [hj]⟩
theorem Strs.at {xs : List ByteArray} (h : Strs w v xs) : ∃ a cap, v = .slice a xs.length cap ∧ xs.length ≤ 140737488355328 ∧ ∀ j, (hj : j < xs.length) → xs[j].size ≤ 140737488355328 ∧ ∃ b off, a = some ⟨b, off, none⟩ ∧ w.cell? ⟨b, off + j, none⟩ = some (.string xs[j]) := by
  obtain ⟨a, cap, hv, hl, hc⟩ := Sl.shape h.1
  refine ⟨a, cap, hv, hl, fun j hj => ⟨h.2 _ (List.getElem_mem hj), ?_⟩⟩
  obtain ⟨b, off, ha, hc⟩ := hc j (by omega)
  exact ⟨b, off, ha, by rw [hc]; simp [hj]⟩
theorem Tabs.at {xs : List (List Int)} (h : Tabs w v xs) : ∃ a cap, v = .slice a xs.length cap ∧ xs.length ≤ 140737488355328 ∧ ∀ j, (hj : j < xs.length) → ∃ b off u, a = some ⟨b, off, none⟩ ∧ w.cell? ⟨b, off + j, none⟩ = some u ∧ Ints w u xs[j] := by
  obtain ⟨vs, h1, h2, h3⟩ := h
  obtain ⟨a, cap, hv, hl, hc⟩ := Sl.shape h1
  refine ⟨a, cap, hv, hl, fun j hj => ?_⟩
  obtain ⟨b, off, ha, hc⟩ := hc j (by omega)
  exact ⟨b, off, _, ha, hc, h3 j hj⟩
end
variable {B : Nat} {w0 w : World} {L : List Res}
theorem Hp.ints (h : Hp B w0 w L) (i : Nat) {e : TypeId} {n : Nat} {v : Value} {xs : List Int} (hi : L[i]? = some (.row e 1 v n (ints xs))) (hn : n ≤ 140737488355328) : Ints w v xs := by
  have hl : n = xs.length := by
    have ho : w.ownsRow B e 1 v n (Go.Proofs.YtkimmlhcaanfjaaDoor.ints xs) := h.ok _ (List.mem_of_getElem? hi)
    have := ho.1
    rw [ints_len] at this
    omega
  subst hl
  exact h.sl i hi hn (fun j hj => ints_get xs j (by omega))
end Go.Proofs.YtkimmlhcaanfjaaDoor
namespace Go.Proofs.YtkimmlhcaanfjaaDoor
open Go.RowKit
def bOf (l : List UInt8) : ByteArray := ⟨l.toArray⟩
theorem bOf_data (s : ByteArray) : bOf s.data.toList = s := by
  unfold bOf
  cases s
  rfl
theorem data_bOf (l : List UInt8) : (bOf l).data.toList = l := rfl
theorem bOf_size (l : List UInt8) : (bOf l).size = l.length := rfl
theorem bOf_inj {a b : List UInt8} (h : bOf a = bOf b) : a = b := by
  have := congrArg (fun s : ByteArray => s.data.toList) h
  exact this
theorem index1_miss {s : List UInt8} {c : UInt8} (h : Lib.index s [c] = -1) : c ∉ s := by
  rw [Lib.index_one] at h
  intro hm
  obtain ⟨k, hk, e⟩ := List.getElem_of_mem hm
  exact Lib.indexByte_none h k (by rw [List.getElem?_eq_getElem hk, e])
theorem index1_hit {s : List UInt8} {c : UInt8} {i : Nat} (h : Lib.index s [c] = i) : s = s.take i ++ c :: s.drop (i + 1) ∧ c ∉ s.take i ∧ i < s.length := by
  rw [Lib.index_one] at h
  obtain ⟨h1, h2⟩ := Lib.indexByte_some h
  obtain ⟨hi, e⟩ := List.getElem?_eq_some_iff.1 h1
  refine ⟨?_, ?_, hi⟩
  · conv => lhs; rw [← List.take_append_drop i s]
    congr 1
    rw [List.drop_eq_getElem_cons hi, e]
  · intro hm
    obtain ⟨k, hk, e2⟩ := List.getElem_of_mem hm
    rw [List.length_take] at hk
    rw [List.getElem_take] at e2
    exact h2 k (by omega) (by rw [List.getElem?_eq_getElem (by omega), e2])
theorem index1_cases (s : List UInt8) (c : UInt8) : (Lib.index s [c] = -1 ∧ c ∉ s) ∨ ∃ i : Nat, Lib.index s [c] = i ∧ s = s.take i ++ c :: s.drop (i + 1) ∧ c ∉ s.take i ∧ i < s.length := by
  have hge := Lib.index_ge s [c]
  by_cases h : Lib.index s [c] = -1
  · exact .inl ⟨h, index1_miss h⟩
  · have h1 : Lib.index s [c] = ((Lib.index s [c]).toNat : Nat) := by omega
    exact .inr ⟨_, h1, index1_hit h1⟩
theorem cut1 (s : List UInt8) (c : UInt8) : (c ∉ s ∧ Lib.cut s [c] = (s, [], false)) ∨ ∃ a b, s = a ++ c :: b ∧ c ∉ a ∧ Lib.cut s [c] = (a, b, true) := by
  rcases index1_cases s c with ⟨h, hm⟩ | ⟨i, h, e, hm, _⟩
  · refine .inl ⟨hm, ?_⟩
    unfold Lib.cut
    rw [h, if_neg (by omega)]
  · refine .inr ⟨s.take i, s.drop (i + 1), e, hm, ?_⟩
    unfold Lib.cut
    rw [h, if_pos (by omega)]
    simp
end Go.Proofs.YtkimmlhcaanfjaaDoor
namespace Go.Proofs.YtkimmlhcaanfjaaDoor
open Go.RowKit
theorem beq_ne {i d : Nat} (h : i ≠ d) : Nat.beq i d = false := by
  cases hb : Nat.beq i d with
  | false => rfl
  | true => exact absurd (Nat.eq_of_beq_eq_true hb) h
def memN (i : Nat) : List Nat → Bool
  | [] => false
  | w :: ws => cond (Nat.beq i w) true (memN i ws)
theorem memN_iff (i : Nat) (W : List Nat) : memN i W = true ↔ i ∈ W := by
  induction W with
  | nil => simp [memN]
  | cons w W ih =>
    simp only [memN, List.mem_cons]
    by_cases h : i = w
    · subst h; simp
    · have : Nat.beq i w = false := beq_ne h
      rw [this]; simp [ih, h]
section
variable (P : Program) (ops : Array Oper)
def wpPure (C : World → Prop) (Q : Act → Prop) : List Oper → Act → Prop
  | [], a => Q a
  | o :: rest, a => if Region.wanted o (yielded ops a.tmps) then ∃ v, (∀ w, C w → (execOp a.eval o).run P w = .ok (.value v) w) ∧ wpPure C Q rest (a.put o.dst v) else wpPure C Q rest (a.put o.dst undef)
def wpListC (C : World → Prop) (Q : Exit → Act → World → Prop) : List Oper → Act → World → Prop
  | [], a, w => C w ∧ Q .normal a w
  | o :: rest, a, w => C w ∧ if Region.wanted o (yielded ops a.tmps) then o.wp P a w (wpListC C Q rest) Q else wpListC C Q rest (a.put o.dst undef) w
def anyC (C : Array Bool → World → Prop) (Q : Exit → Act → World → Prop) : Nat → Array Bool → Act → World → Prop
  | 0, listed, a, w => C listed w ∧ Region.ready .any ops listed = [] ∧ Q .normal a w
  | f + 1, listed, a, w => C listed w ∧ (Region.ready .any ops listed = [] → Q .normal a w) ∧ ∀ i ∈ Region.ready .any ops listed, wpOp P ops Q i (anyC C Q f (listed.setIfInBounds i true)) a w
def started (T : List Nat) (listed : Array Bool) : Bool := T.any fun t => listed.getD t false
end
section
variable {P : Program} {ops : Array Oper} {Q : Exit → Act → World → Prop} {C : Array Bool → World → Prop}
theorem anyC.cls {f : Nat} {listed : Array Bool} {a : Act} {w : World} (h : anyC P ops C Q f listed a w) : C listed w := by
  cases f with
  | zero => exact h.1
  | succ f => exact h.1
end
end Go.Proofs.YtkimmlhcaanfjaaDoor
