/-
  Laws for make and copy over the resource list, and slices.Repeat. No statement of the seat is proved here.
-/
import Derived.Test.YtpbohmddbfaiiaaLibf
import Derived.Deep.RegionLaw
import Derived.Laws.CopyOwn
namespace Go.Proofs.Ytpbohmddbfaiiaa
open Go.RowKit

theorem src1 {w : World} {b off : Nat} {x : Value} (h : w.cell? ⟨b, off, none⟩ = some x) : ∀ j v, [x][j]? = some v → w.cell? ((⟨b, off, none⟩ : Addr).add j) = some v := by
  intro j v hj
  cases j with
  | zero => simp at hj; subst hj; simpa [Addr.add] using h
  | succ j => simp at hj

section
variable {B : Nat} {w0 w w' : World} {L : List Res}

/-- 'make([]T, n)', elements of one cell. -/
theorem wpList_make_hp {P : Program} {ops : Array Oper} {rest : List Oper} {o : Oper} {a : Act} {Q : Exit → Act → World → Prop} (hgd : o.guard = .none) (l c : Operand) (t : TypeId)
    (ho : o.op = Op.makeSlice t l c) {e : TypeId} {bytes : Nat} {z : Value} (T : SlTy P t e 1 bytes z) (hz : z.cells = #[z])
    (h : Hp B w0 w L) (kl kc : IntKind) (N M : Int) (n : Nat) (hl : a.eval l = .int kl N) (hc : a.eval c = .int kc M) (hN : N = (n : Int)) (hM : M = (n : Int)) (hb : bytes * n ≤ 281474976710656) (hn : n ≤ 9223372036854775807)
    (hk : ∀ g w', Hp B w0 w' (.row e 1 (.slice (some ⟨g, 0, .none⟩) n n) n (List.replicate n z) :: L) → wpList P ops Q rest (a.put o.dst (.slice (some ⟨g, 0, .none⟩) n n)) w') :
    wpList P ops Q (o :: rest) a w := by
  obtain ⟨i0, hi0, hz0, hz1, hz2⟩ := info_parts T.inf
  refine wpList_make_full w hgd l c t ho B e i0 z 1 T.und hi0 hz0 hz1 kl kc N M n hl hc hN hM (by rw [hz2]; exact hb) (by unfold maxLen; omega) h.base ?_
  intro w' hown hg
  refine hk w.heap.size w' ?_
  rw [hz, Nat.mul_one, toList_madeCells_one] at hown
  refine h.fresh (r := .row e 1 (.slice (some ⟨w.heap.size, 0, .none⟩) n n) n (List.replicate n z)) hown ⟨hg.os, hg.tape, hg.output, hg.size, fun k hk => hg.block k hk (by simp)⟩ (fun k hk => by simp [Res.blk, Value.ownBlock] at hk; omega)

theorem own_splice {e : TypeId} {g n cap : Nat} {xs cs : List Value} (h : w.ownsRow B e 1 (.slice (some ⟨g, 0, .none⟩) n cap) n xs) {cur : Array Value} (hg : w.heap[g]? = some (.cells cur e (0, 0))) (off : Nat) (hfit : off + cs.length ≤ n) :
    (w.setRow g (cur.toList.take off ++ cs ++ cur.toList.drop (off + cs.length)).toArray).ownsRow B e 1 (.slice (some ⟨g, 0, .none⟩) n cap) n (xs.take off ++ cs ++ xs.drop (off + cs.length)) ∧
    w.grownBy (w.setRow g (cur.toList.take off ++ cs ++ cur.toList.drop (off + cs.length)).toArray) (some g) := by
  have hl := h.1
  rcases h.2 with ⟨h', _⟩ | ⟨g', cap', cur', h', hb, hg', hnc, hcm, hcs, htake⟩
  · simp at h'
  · simp only [Value.slice.injEq, Option.some.injEq, Addr.mk.injEq, and_true, true_and] at h'
    obtain ⟨rfl, rfl⟩ := h'
    rw [hg] at hg'
    simp only [Option.some.injEq, Obj.cells.injEq, and_true] at hg'
    subst hg'
    refine ⟨⟨?_, .inr ⟨g, cap, _, rfl, hb, setRow_heap w g cur _ e _ hg, hnc, hcm, ?_, ?_⟩⟩, ⟨rfl, rfl, rfl, by simp, fun k _ hk => setRow_other w g k _ (fun e => hk (by simp [e]))⟩⟩
    · simp only [List.length_append, List.length_take, List.length_drop]
      omega
    · simp only [List.size_toArray, List.length_append, List.length_take, List.length_drop, Array.length_toList]
      omega
    · rw [Nat.mul_one] at *
      rw [← htake]
      have e1 : (List.take off cur.toList).length = off := by rw [List.length_take, Array.length_toList]; omega
      rw [List.take_take, Nat.min_eq_left (by omega : off ≤ n), List.append_assoc, List.append_assoc]
      rw [List.take_append, List.take_append, List.take_of_length_le (by omega : (List.take off cur.toList).length ≤ n), e1, List.take_of_length_le (by omega : cs.length ≤ n - off), List.drop_take]
      congr 3
      omega

/-- 'copy' into an owned row. -/
theorem run_copy_hp {P : Program} (h : Hp B w0 w L) (i : Nat) {t ty : TypeId} {e : TypeId} {bytes : Nat} {z : Value} (T : SlTy P t e 1 bytes z) {g n cap : Nat} {xs : List Value} (hi : L[i]? = some (.row e 1 (.slice (some ⟨g, 0, .none⟩) n cap) n xs))
    (off dLen dCap : Nat) (ad : Addr) (sLen sCap : Nat) (cs : List Value) (hn : cs.length = Nat.min sLen dLen) (hsrc : ∀ j v, cs[j]? = some v → w.cell? (ad.add j) = some v) (hfit : off + cs.length ≤ n) (h1 : ∀ v ∈ cs, v.oneCell' = true) :
    ∃ w', (Builtin.copy_ #[t, t] ty #[.slice (some ⟨g, off, .none⟩) dLen dCap, .slice (some ad) sLen sCap]).run P w = .ok (goInt cs.length) w' ∧
      Hp B w0 w' (L.set i (.row e 1 (.slice (some ⟨g, 0, .none⟩) n cap) n (xs.take off ++ cs ++ xs.drop (off + cs.length)))) := by
  have ho : w.ownsRow B e 1 (.slice (some ⟨g, 0, .none⟩) n cap) n xs := h.ok _ (List.mem_of_getElem? hi)
  obtain ⟨i0, hi0, hz0, hz1, hz2⟩ := info_parts T.inf
  rcases ho.2 with ⟨h', _⟩ | ⟨g', cap', cur, h', hb, hg, hnc, hcm, hcs, htake⟩
  · simp at h'
  · have h'' := h'
    simp only [Value.slice.injEq, Option.some.injEq, Addr.mk.injEq, and_true, true_and] at h''
    obtain ⟨rfl, rfl⟩ := h''
    have hrun := run_copy_row (P := P) w t t ty e g off dLen dCap ad sLen sCap cur e cs T.und (by rw [hi0]; simp [hz1]) hg hn hsrc (by omega) h1
    obtain ⟨s1, s2⟩ := own_splice ho hg off hfit (cs := cs)
    exact ⟨_, hrun, h.turn hi s2 s1 (fun k hk => .inl hk)⟩

theorem wpList_copy_hp {P : Program} {ops : Array Oper} {rest : List Oper} {o : Oper} {a : Act} {Q : Exit → Act → World → Prop} (hgd : o.guard = .none) (d s : Operand) (t : TypeId)
    (hop : o.op = .call { callee := .builtin .copy, args := #[d, s], argTypes := #[t, t] })
    (h : Hp B w0 w L) (i : Nat) {e : TypeId} {bytes : Nat} {z : Value} (T : SlTy P t e 1 bytes z) {g n cap : Nat} {xs : List Value} (hi : L[i]? = some (.row e 1 (.slice (some ⟨g, 0, .none⟩) n cap) n xs))
    (off dLen dCap : Nat) (ad : Addr) (sLen sCap : Nat) (hd : a.eval d = .slice (some ⟨g, off, .none⟩) dLen dCap) (hs : a.eval s = .slice (some ad) sLen sCap)
    (cs : List Value) (hn : cs.length = Nat.min sLen dLen) (hsrc : ∀ j v, cs[j]? = some v → w.cell? (ad.add j) = some v) (hfit : off + cs.length ≤ n) (h1 : ∀ v ∈ cs, v.oneCell' = true)
    (hk : ∀ w', Hp B w0 w' (L.set i (.row e 1 (.slice (some ⟨g, 0, .none⟩) n cap) n (xs.take off ++ cs ++ xs.drop (off + cs.length)))) → wpList P ops Q rest (a.put o.dst (goInt cs.length)) w') :
    wpList P ops Q (o :: rest) a w := by
  refine wpList_plain hgd fun K hK => ?_
  obtain ⟨w', hrun, hp⟩ := run_copy_hp (P := P) h i (ty := o.type) T hi off dLen dCap ad sLen sCap cs hn hsrc hfit h1
  unfold Oper.wp
  simp [execOp, hop, resolve, invoke, builtin, hd, hs, hrun, Result.andThen]
  exact hK _ _ (hk w' hp)

theorem step_copy_hp {P : Program} {ops : Array Oper} {o : Oper} {a : Act} {K : Act → World → Prop} {Q : Exit → Act → World → Prop} {E : Prop} (hgd : o.guard = .none) (d s : Operand) (t : TypeId)
    (hop : o.op = .call { callee := .builtin .copy, args := #[d, s], argTypes := #[t, t] })
    (h : Hp B w0 w L) (i : Nat) {e : TypeId} {bytes : Nat} {z : Value} (T : SlTy P t e 1 bytes z) {g n cap : Nat} {xs : List Value} (hi : L[i]? = some (.row e 1 (.slice (some ⟨g, 0, .none⟩) n cap) n xs))
    (off dLen dCap : Nat) (ad : Addr) (sLen sCap : Nat) (hd : a.eval d = .slice (some ⟨g, off, .none⟩) dLen dCap) (hs : a.eval s = .slice (some ad) sLen sCap)
    (cs : List Value) (hn : cs.length = Nat.min sLen dLen) (hsrc : ∀ j v, cs[j]? = some v → w.cell? (ad.add j) = some v) (hfit : off + cs.length ≤ n) (h1 : ∀ v ∈ cs, v.oneCell' = true)
    (hk : ∀ w', Hp B w0 w' (L.set i (.row e 1 (.slice (some ⟨g, 0, .none⟩) n cap) n (xs.take off ++ cs ++ xs.drop (off + cs.length)))) → K (a.put o.dst (goInt cs.length)) w') :
    if Region.wanted o (yielded ops a.tmps) = true then Oper.wp P o a w K Q else E := by
  have hw : Region.wanted o (yielded ops a.tmps) = true := by simp [Region.wanted, hgd]
  rw [if_pos hw]
  obtain ⟨w', hrun, hp⟩ := run_copy_hp (P := P) h i (ty := o.type) T hi off dLen dCap ad sLen sCap cs hn hsrc hfit h1
  unfold Oper.wp
  simp [execOp, hop, resolve, invoke, builtin, hd, hs, hrun, Result.andThen]
  exact hk w' hp
end
end Go.Proofs.Ytpbohmddbfaiiaa
