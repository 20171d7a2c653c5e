/-
  Part 18 of the proof: Arr. No statement of the seat is proved here.
-/
import Derived.Test.YtmclgfipdgmomaaGreatMHReads17
namespace Go.Proofs.YtmclgfipdgmomaaGreat
open Go.RowKit
section
variable {P : Program} {n : Nat} {w0 : World} {K : Fm → List Res → Prop} {F : Fm} {L : List Res} {m : Md} {Lw : List Res} {ops : Array Oper} {rest : List Oper}
  {d : Option Nat} {ty : TypeId} {pos : String} {aft : Array Edge}
theorem madeCells_same (u : Value) (sz k : Nat) (hs : 0 < sz) : (madeCells (List.replicate sz u).toArray k).toList = List.replicate k u := by
  unfold madeCells
  apply List.ext_getElem
  · simp
  · intro i h1 h2
    have hm : i % sz < sz := Nat.mod_lt _ hs
    simp [hm]
theorem OKx_makeN {l c : Operand} {t e sz bytes : Nat} {z : Value} (u : Value) [T : TSlice P t e sz bytes z] {kl kc : IntKind} {N : Nat} [hE : Keeps w0 L Lw] (hl : rv n F l = .int kl (N : Int)) (hc : rv n F c = .int kc (N : Int)) (hz : z.cells = (List.replicate sz u).toArray) (hs : Nat.ble 1 sz = true) (hb : bytes * N ≤ 281474976710656) (hn : N ≤ 9223372036854775807)
    (kk : ∀ g, OKx P n w0 (.seq Lw) ops K rest (updo F d (.slice (some ⟨g, 0, none⟩) N N)) (.row e sz (.slice (some ⟨g, 0, none⟩) N N) N (List.replicate (N * sz) u) :: L)) :
    OKx P n w0 (.seq Lw) ops K (⟨d, .makeSlice t l c, ty, pos, aft, none⟩ :: rest) F L := by
  refine OKx_actW hE.ent fun w a hfr hp => wp_of_list (ops := ops) rfl ?_
  obtain ⟨i0, hi0, hz0, hz1, hz2⟩ := info_parts T.ty.inf
  refine wpList_make_full w rfl l c t rfl w0.heap.size e i0 z sz T.ty.und hi0 hz0 hz1 kl kc _ _ N (by rw [hfr.eval]; exact hl) (by rw [hfr.eval]; exact hc) rfl rfl (by rw [hz2]; exact hb) (by unfold maxLen; omega) hp.base ?_
  intro w' hown hg
  have hs' : 0 < sz := by rw [Nat.ble_eq] at hs; exact hs
  rw [hz, madeCells_same u sz _ hs'] at hown
  have hp' := hp.fresh (r := .row e sz (.slice (some ⟨w.heap.size, 0, .none⟩) N N) N (List.replicate (N * sz) u)) hown ⟨hg.os, hg.tape, hg.output, hg.size, fun k hk => hg.block k hk (by simp)⟩ (fun k hk => by simp [Res.blk, Value.ownBlock] at hk; omega)
  exact ⟨rfl, (kk w.heap.size).use w' _ (hfr.put d _) hp'⟩
theorem OKx_idxA {t len e : Nat} {z : Value} [T : TOne P e z] (hu : P.underlying t = some (.array len e)) {x ix : Operand} {g o : Nat} {k : IntKind} {i : Nat} (hx : rv n F x = .pointer (some ⟨g, o, none⟩)) (hix : rv n F ix = .int k (i : Int)) (h1 : i < len)
    (kk : OKx P n w0 m ops K rest (updo F d (.pointer (some ⟨g, o + i, none⟩))) L) : OKx P n w0 m ops K (⟨d, .indexAddr t x ix, ty, pos, aft, none⟩ :: rest) F L :=
  OKx_still (fun w _ _ _ _ _ => by
    have hu' : (underlying t).run P w = .ok (.array len e) w := by simp [underlying, program, Sem.run_bind, Sem.run, hu, Result.andThen]
    simp [execOp, Instr.indexAt, hx, hix, asIntOf, Sem.run_bind, hu', T.size, Result.andThen, Instr.sureAddr, h1, add_at]) kk
theorem OKx_idxAz {t len e : Nat} {z : Value} [T : TOne P e z] (hu : P.underlying t = some (.array len e)) {x ix : Operand} {g o : Nat} {k : IntKind} {i : Int} (hx : rv n F x = .pointer (some ⟨g, o, none⟩)) (hix : rv n F ix = .int k i) (h0 : 0 ≤ i) (h1 : i < len)
    (kk : OKx P n w0 m ops K rest (updo F d (.pointer (some ⟨g, o + i.toNat, none⟩))) L) : OKx P n w0 m ops K (⟨d, .indexAddr t x ix, ty, pos, aft, none⟩ :: rest) F L := by
  obtain ⟨j, rfl⟩ := Int.eq_ofNat_of_zero_le h0
  exact OKx_idxA hu hx hix (by omega) kk
theorem OKx_idxAgg {t len e : Nat} {z : Value} [T : TOne P e z] (hu : P.underlying t = some (.array len e)) {x ix : Operand} {cs : Array Value} {k : IntKind} {i : Nat} {v : Value} (hx : rv n F x = .agg cs) (hix : rv n F ix = .int k (i : Int)) (h1 : i < len) (hv : cs[i]? = some v)
    (kk : OKx P n w0 m ops K rest (updo F d v) L) : OKx P n w0 m ops K (⟨d, .index t x ix, ty, pos, aft, none⟩ :: rest) F L :=
  OKx_still (fun w _ _ _ _ _ => by
    have hu' : (underlying t).run P w = .ok (.array len e) w := by simp [underlying, program, Sem.run_bind, Sem.run, hu, Result.andThen]
    simp [execOp, Instr.index, hx, hix, asIntOf, Sem.run_bind, hu', T.size, Result.andThen, h1, Go.part, T.agg, hv]) kk
theorem OKx_stWs {t : TypeId} {z : Value} [T : TOne P t z] {x y : Operand} {g k : Nat} {v : Value} [hE : Keeps w0 L Lw] (i : Nat) {e sz : Nat} {N cap : Nat} {cs cs' : List Value} {L' : List Res} (hx : rv n F x = .pointer (some ⟨g, k, none⟩)) (hy : rv n F y = v) (h1 : v.oneCell' = true) (hv : v.cells = #[v]) (hi : L[i]? = some (.row e sz (.slice (some ⟨g, 0, none⟩) N cap) N cs)) (hk : k < N * sz)
    (hs : cs.set k v = cs') (hL : L.set i (.row e sz (.slice (some ⟨g, 0, none⟩) N cap) N cs') = L') (kk : OKx P n w0 (.seq Lw) ops K rest (updo F d undef) L') : OKx P n w0 (.seq Lw) ops K (⟨d, .store t x y, ty, pos, aft, none⟩ :: rest) F L := by
  subst hs; subst hL
  refine OKx_act0 hE.ent fun w hp => ⟨_, _, ?_, hp.setRow hi k v, kk⟩
  obtain ⟨hc, hf, _, _⟩ := hp.rowAt i hi
  have ho : w.ownsRow w0.heap.size e sz (.slice (some ⟨g, 0, none⟩) N cap) N cs := hp.ok _ (List.mem_of_getElem? hi)
  have hl := ho.1
  exact run_store1 T hx hy h1 hv ((hc k hk).trans (List.getElem?_eq_getElem (by omega))) (hf k) _ _ _ _
end
end Go.Proofs.YtmclgfipdgmomaaGreat
