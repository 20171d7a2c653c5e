/-
  Part 15 of the proof: Pd36, Lr36, Lb36, Dat, FuncD, Copy, Rep, Bnd, Years. No statement of the seat is proved here.
-/
import Derived.Test.YtpfemholpigdeaaDoorMHTr3714
import Derived.Deep.RegionLaw
import Derived.Laws.CopyOwn
import Derived.Deep.DeepCutAuto
namespace Go.Proofs.YtpfemholpigdeaaDoor
theorem upN_toNat {i : Nat} {y : Int} (h0 : 0 ≤ y) (hn : y ≠ (i : Int)) : ∃ q : Nat, decI i y = (q : Int) ∧ y = (upN i q : Nat) := by
  unfold decI upN
  by_cases h : (i : Int) < y
  · refine ⟨(y - 1).toNat, by rw [if_pos h];omega, ?_⟩
    rw [if_neg (by omega)]
    omega
  · refine ⟨y.toNat, by rw [if_neg h];omega, ?_⟩
    rw [if_pos (by omega)]
    omega
end Go.Proofs.YtpfemholpigdeaaDoor
namespace Go.Proofs.YtpfemholpigdeaaDoor
open Go.RowKit
theorem chkI_in {s : Stem} {i : Int} (hc : stCheck s = 0) (h0 : 0 ≤ i) (h1 : i < s.names.length) : chkI s i = 0 := by
  unfold chkI
  rw [if_neg (by omega), if_neg (by omega)]
-- Descendants, told for a node that there is.
end Go.Proofs.YtpfemholpigdeaaDoor
namespace Go.Proofs.YtpfemholpigdeaaDoor
open Go.RowKit
set_option maxRecDepth 100000 in
set_option maxHeartbeats 4000000 in
theorem PrsO_sat (t : ByteArray) (s : Stem) (w : World) (hm : MxL w) (h : psE t = 0) (hs : psS t = s) : Sat Tryd.prog 11 [.string t] w (fun u Z => ∃ a b c d e f g h i, u = .tuple #[.agg #[.slice a b c, .slice d e f, .slice g h i], .int .i64 0] ∧ ∀ w0 w, Hp w0.heap.size w0 w Z → Stm w (.agg #[.slice a b c, .slice d e f, .slice g h i]) s) :=
  (Parse_sat t w hm).mono fun u L hR => by
    rcases hR with ⟨h1, _⟩ | ⟨_, na, nc, ea, ec, pa, pc, h1, h2⟩
    · exact absurd h h1
    · rw [hs] at h1 h2
      exact ⟨_, _, _, _, _, _, _, _, _, h1, h2⟩
end Go.Proofs.YtpfemholpigdeaaDoor
namespace Go.Proofs.YtpfemholpigdeaaDoor
open Go.RowKit
structure Dt where
  node : Int
  fr : Int
  tl : Int
def dcells (ds : List Dt) : List Value := ds.flatMap fun d => [.int .i64 d.node, .int .i64 d.fr, .int .i64 d.tl]
structure Dats (w : World) (v : Value) (ds : List Dt) : Prop where
  sl : Sl w v 3 ds.length (fun j => (dcells ds).getD j undef)
  bd : ∀ d ∈ ds, (-9223372036854775808 ≤ d.node ∧ d.node ≤ 9223372036854775807) ∧ (-9223372036854775808 ≤ d.fr ∧ d.fr ≤ 9223372036854775807) ∧ (-9223372036854775808 ≤ d.tl ∧ d.tl ≤ 9223372036854775807)
theorem dcells_at (ds : List Dt) (j : Nat) (hj : j < ds.length) : (dcells ds)[j * 3]? = some (.int .i64 ds[j].node) ∧ (dcells ds)[j * 3 + 1]? = some (.int .i64 ds[j].fr) ∧ (dcells ds)[j * 3 + 2]? = some (.int .i64 ds[j].tl) := by
  induction ds generalizing j with
  | nil => simp at hj
  | cons d ds ih =>
    cases j with
    | zero => simp [dcells]
    | succ j =>
      have := ih j (by simpa using hj)
      have e : ∀ i, (dcells (d :: ds))[(j + 1) * 3 + i]? = (dcells ds)[j * 3 + i]? := by
        intro i
        have : (j + 1) * 3 + i = (j * 3 + i) + 3 := by omega
        rw [this]
        simp [dcells]
      have e0 := e 0
      simp only [Nat.add_zero] at e0
      rw [e0, e 1, e 2]
      simpa using this
theorem Dats.at {w : World} {v : Value} {ds : List Dt} (h : Dats w v ds) : ∃ a cap, v = .slice a ds.length cap ∧ ds.length ≤ 140737488355328 ∧ ∀ j, (hj : j < ds.length) → ∃ b off, a = some ⟨b, off, none⟩ ∧ w.cell? ⟨b, off + j * 3, none⟩ = some (.int .i64 ds[j].node) ∧
    w.cell? ⟨b, off + j * 3 + 1, none⟩ = some (.int .i64 ds[j].fr) ∧ w.cell? ⟨b, off + j * 3 + 2, none⟩ = some (.int .i64 ds[j].tl) := by
  obtain ⟨a, cap, hv, hl, hc⟩ := h.sl.shape
  refine ⟨a, cap, hv, hl, fun j hj => ?_⟩
  obtain ⟨b, off, ha, h0⟩ := hc (j * 3) (by omega)
  obtain ⟨b', off', ha', h1⟩ := hc (j * 3 + 1) (by omega)
  obtain ⟨b'', off'', ha'', h2⟩ := hc (j * 3 + 2) (by omega)
  rw [ha] at ha' ha''
  simp only [Option.some.injEq, Addr.mk.injEq, and_true] at ha' ha''
  obtain ⟨rfl, rfl⟩ := ha'
  obtain ⟨rfl, rfl⟩ := ha''
  obtain ⟨e0, e1, e2⟩ := dcells_at ds j hj
  refine ⟨b, off, ha, ?_, ?_, ?_⟩
  · rw [h0]; simp [e0]
  · rw [Nat.add_assoc, h1]; simp [e1]
  · rw [Nat.add_assoc, h2]; simp [e2]
theorem Dats.below {w w' : World} {v : Value} {ds : List Dt} (h : Dats w v ds) (hb : Below w.heap.size w w') : Dats w' v ds := ⟨h.sl.below hb, h.bd⟩
def dBad (n : Nat) (d : Dt) : Prop := d.node < 0 ∨ (n : Int) ≤ d.node ∨ d.fr < -5000 ∨ 5000 < d.fr ∨ d.tl < -5000 ∨ 5000 < d.tl
instance (n : Nat) (d : Dt) : Decidable (dBad n d) := by unfold dBad; infer_instance
def dtAt (n : Nat) (ds : List Dt) (i : Nat) : Int :=
  if dBad n (ds.getD i ⟨0, 0, 0⟩) then 2
  else if (ds.getD i ⟨0, 0, 0⟩).tl < (ds.getD i ⟨0, 0, 0⟩).fr then 10
  else if (ds.take i).any (fun e => e.node == (ds.getD i ⟨0, 0, 0⟩).node) = true then 7 else 0
def dCheck (s : Stem) (ds : List Dt) : Int := if stCheck s ≠ 0 then 1 else firstErr (dtAt s.names.length ds) ds.length
theorem dCheck_at (s : Stem) (ds : List Dt) (k : Nat) (h0 : stCheck s = 0) (hk : k < ds.length) (hf : firstErr (dtAt s.names.length ds) k = 0) (e : Int) (hs : dtAt s.names.length ds k = e) (hne : e ≠ 0) : dCheck s ds = e := by
  rw [dCheck, if_neg (by rw [h0]; simp), firstErr_hit _ k _ hf (by rw [hs]; exact hne) hk, hs]
theorem dCheck_ok (s : Stem) (ds : List Dt) (h0 : stCheck s = 0) (hf : firstErr (dtAt s.names.length ds) ds.length = 0) : dCheck s ds = 0 := by
  rw [dCheck, if_neg (by rw [h0]; simp), hf]
theorem dtAt_eq (n : Nat) (ds : List Dt) (k : Nat) (hk : k < ds.length) : dtAt n ds k = if dBad n ds[k] then 2 else if ds[k].tl < ds[k].fr then 10 else if (ds.take k).any (fun e => e.node == ds[k].node) = true then 7 else 0 := by
  rw [dtAt]; simp [hk]
def seenF (ds : List Dt) (k : Nat) : Lit → Option Value := fun l => if (ds.take k).any (fun e => l.sameKey (.int .i64 e.node)) = true then some (.bool true) else none
theorem seenF_zero (ds : List Dt) : seenF ds 0 = fun _ => none := by
  funext l; simp [seenF]
theorem seenF_succ (ds : List Dt) (k : Nat) (hk : k < ds.length) : putF (seenF ds k) (.int .i64 ds[k].node) (.bool true) = seenF ds (k + 1) := by
  funext l
  unfold putF seenF
  rw [List.take_succ_eq_append_getElem hk, List.any_append]
  by_cases h1 : l.sameKey (.int .i64 ds[k].node) = true
  · rw [if_pos h1, if_pos (by simp [h1])]
  · rw [if_neg h1]
    simp [h1]
theorem seenF_get (ds : List Dt) (k : Nat) (x : Int) : (seenF ds k (.int .i64 x)).getD (.bool false) = .bool ((ds.take k).any (fun e => e.node == x)) := by
  unfold seenF
  have e : (fun e : Dt => Lit.sameKey (.int .i64 x) (.int .i64 e.node)) = (fun e => e.node == x) := by
    funext e
    simp only [Lit.sameKey, true_and]
    rw [Bool.eq_iff_iff]
    simp only [decide_eq_true_eq, beq_iff_eq]
    exact ⟨fun h => h.symm, fun h => h.symm⟩
  rw [e]
  cases h : (ds.take k).any (fun e => e.node == x) with
  | true => rw [if_pos rfl]; rfl
  | false => rw [if_neg (by simp)]; rfl
theorem zeroBool (w : World) : (zeroValue 4).run Tryd.prog w = .ok (.bool false) w := by kernel_rfl
end Go.Proofs.YtpfemholpigdeaaDoor
namespace Go.Proofs.YtpfemholpigdeaaDoor
open Go.RowKit
def dcel (ds : List Dt) (j c : Nat) : Value := match c with
  | 0 => .int .i64 (ds.getD j ⟨0, 0, 0⟩).node
  | 1 => .int .i64 (ds.getD j ⟨0, 0, 0⟩).fr
  | _ => .int .i64 (ds.getD j ⟨0, 0, 0⟩).tl
theorem Dats.sl2 {w : World} {v : Value} {ds : List Dt} (h : Dats w v ds) : Sl2 w v 3 ds.length (dcel ds) := by
  obtain ⟨a, cap, rfl, hl, hc⟩ := h.at
  refine ⟨hl, a, cap, rfl, ?_⟩
  by_cases h0 : ds.length = 0
  · exact .inl h0
  right
  obtain ⟨b, off, rfl, _⟩ := hc 0 (by omega)
  refine ⟨b, off, rfl, fun j hj c hcs => ?_⟩
  obtain ⟨b', off', e, h1, h2, h3⟩ := hc j hj
  simp only [Option.some.injEq, Addr.mk.injEq, and_true] at e
  obtain ⟨rfl, rfl⟩ := e
  have eg : ds.getD j ⟨0, 0, 0⟩ = ds[j] := by simp [hj]
  match c, hcs with
  | 0, _ => rw [Nat.add_zero, h1, dcel, eg]
  | 1, _ => rw [h2, dcel, eg]
  | 2, _ => rw [h3]; show _ = some (Value.int .i64 (ds.getD j ⟨0, 0, 0⟩).tl); rw [eg]
end Go.Proofs.YtpfemholpigdeaaDoor
namespace Go.Proofs.YtpfemholpigdeaaDoor
open Go.RowKit
theorem src1 {w : World} {b off : Nat} {x : Value} (h : w.cell? ⟨b, off, none⟩ = some x) : ∀ j v, [x][j]? = some v → w.cell? ((⟨b, off, none⟩ : Addr).add j) = some v := by
  intro j v hj
  cases j with
  | zero => simp at hj; subst hj; simpa [Addr.add] using h
  | succ j => simp at hj
section
variable {B : Nat} {w0 w w' : World} {L : List Res}
theorem wpList_make_hp {P : Program} {ops : Array Oper} {rest : List Oper} {o : Oper} {a : Act} {Q : Exit → Act → World → Prop} (hgd : o.guard = .none) (l c : Operand) (t : TypeId)
    (ho : o.op = Op.makeSlice t l c) {e : TypeId} {bytes : Nat} {z : Value} (T : SlTy P t e 1 bytes z) (hz : z.cells = #[z])
    (h : Hp B w0 w L) (kl kc : IntKind) (N M : Int) (n : Nat) (hl : a.eval l = .int kl N) (hc : a.eval c = .int kc M) (hN : N = (n : Int)) (hM : M = (n : Int)) (hb : bytes * n ≤ 281474976710656) (hn : n ≤ 9223372036854775807)
    (hk : ∀ g w', Hp B w0 w' (.row e 1 (.slice (some ⟨g, 0, .none⟩) n n) n (List.replicate n z) :: L) → wpList P ops Q rest (a.put o.dst (.slice (some ⟨g, 0, .none⟩) n n)) w') :
    wpList P ops Q (o :: rest) a w := by
  obtain ⟨i0, hi0, hz0, hz1, hz2⟩ := info_parts T.inf
  refine wpList_make_full w hgd l c t ho B e i0 z 1 T.und hi0 hz0 hz1 kl kc N M n hl hc hN hM (by rw [hz2]; exact hb) (by unfold maxLen;omega) h.base ?_
  intro w' hown hg
  refine hk w.heap.size w' ?_
  rw [hz, Nat.mul_one, toList_madeCells_one] at hown
  refine h.fresh (r := .row e 1 (.slice (some ⟨w.heap.size, 0, .none⟩) n n) n (List.replicate n z)) hown ⟨hg.os, hg.tape, hg.output, hg.size, fun k hk => hg.block k hk (by simp)⟩ (fun k hk => by simp [Res.blk, Value.ownBlock] at hk;omega)
theorem own_splice {e : TypeId} {g n cap : Nat} {xs cs : List Value} (h : w.ownsRow B e 1 (.slice (some ⟨g, 0, .none⟩) n cap) n xs) {cur : Array Value} (hg : w.heap[g]? = some (.cells cur e (0, 0))) (off : Nat) (hfit : off + cs.length ≤ n) :
    (w.setRow g (cur.toList.take off ++ cs ++ cur.toList.drop (off + cs.length)).toArray).ownsRow B e 1 (.slice (some ⟨g, 0, .none⟩) n cap) n (xs.take off ++ cs ++ xs.drop (off + cs.length)) ∧
    w.grownBy (w.setRow g (cur.toList.take off ++ cs ++ cur.toList.drop (off + cs.length)).toArray) (some g) := by
  have hl := h.1
  rcases h.2 with ⟨h', _⟩ | ⟨g', cap', cur', h', hb, hg', hnc, hcm, hcs, htake⟩
  · simp at h'
  · simp only [Value.slice.injEq, Option.some.injEq, Addr.mk.injEq, and_true, true_and] at h'
    obtain ⟨rfl, rfl⟩ := h'
    rw [hg] at hg'
    simp only [Option.some.injEq, Obj.cells.injEq, and_true] at hg'
    subst hg'
    refine ⟨⟨?_, .inr ⟨g, cap, _, rfl, hb, setRow_heap w g cur _ e _ hg, hnc, hcm, ?_, ?_⟩⟩, ⟨rfl, rfl, rfl, by simp, fun k _ hk => setRow_other w g k _ (fun e => hk (by simp [e]))⟩⟩
    · simp only [List.length_append, List.length_take, List.length_drop]
      omega
    · simp only [List.size_toArray, List.length_append, List.length_take, List.length_drop, Array.length_toList]
      omega
    · rw [Nat.mul_one] at *
      rw [← htake]
      have e1 : (List.take off cur.toList).length = off := by rw [List.length_take, Array.length_toList];omega
      rw [List.take_take, Nat.min_eq_left (by omega : off ≤ n), List.append_assoc, List.append_assoc]
      rw [List.take_append, List.take_append, List.take_of_length_le (by omega : (List.take off cur.toList).length ≤ n), e1, List.take_of_length_le (by omega : cs.length ≤ n - off), List.drop_take]
      congr 3
      omega
theorem run_copy_hp {P : Program} (h : Hp B w0 w L) (i : Nat) {t ty : TypeId} {e : TypeId} {bytes : Nat} {z : Value} (T : SlTy P t e 1 bytes z) {g n cap : Nat} {xs : List Value} (hi : L[i]? = some (.row e 1 (.slice (some ⟨g, 0, .none⟩) n cap) n xs))
    (off dLen dCap : Nat) (ad : Addr) (sLen sCap : Nat) (cs : List Value) (hn : cs.length = Nat.min sLen dLen) (hsrc : ∀ j v, cs[j]? = some v → w.cell? (ad.add j) = some v) (hfit : off + cs.length ≤ n) (h1 : ∀ v ∈ cs, v.oneCell' = true) :
    ∃ w', (Builtin.copy_ #[t, t] ty #[.slice (some ⟨g, off, .none⟩) dLen dCap, .slice (some ad) sLen sCap]).run P w = .ok (goInt cs.length) w' ∧
      Hp B w0 w' (L.set i (.row e 1 (.slice (some ⟨g, 0, .none⟩) n cap) n (xs.take off ++ cs ++ xs.drop (off + cs.length)))) := by
  have ho : w.ownsRow B e 1 (.slice (some ⟨g, 0, .none⟩) n cap) n xs := h.ok _ (List.mem_of_getElem? hi)
  obtain ⟨i0, hi0, hz0, hz1, hz2⟩ := info_parts T.inf
  rcases ho.2 with ⟨h', _⟩ | ⟨g', cap', cur, h', hb, hg, hnc, hcm, hcs, htake⟩
  · simp at h'
  · have h'' := h'
    simp only [Value.slice.injEq, Option.some.injEq, Addr.mk.injEq, and_true, true_and] at h''
    obtain ⟨rfl, rfl⟩ := h''
    have hrun := run_copy_row (P := P) w t t ty e g off dLen dCap ad sLen sCap cur e cs T.und (by rw [hi0]; simp [hz1]) hg hn hsrc (by omega) h1
    obtain ⟨s1, s2⟩ := own_splice ho hg off hfit (cs := cs)
    exact ⟨_, hrun, h.turn hi s2 s1 (fun k hk => .inl hk)⟩
theorem wpList_copy_hp {P : Program} {ops : Array Oper} {rest : List Oper} {o : Oper} {a : Act} {Q : Exit → Act → World → Prop} (hgd : o.guard = .none) (d s : Operand) (t : TypeId)
    (hop : o.op = .call { callee := .builtin .copy, args := #[d, s], argTypes := #[t, t] })
    (h : Hp B w0 w L) (i : Nat) {e : TypeId} {bytes : Nat} {z : Value} (T : SlTy P t e 1 bytes z) {g n cap : Nat} {xs : List Value} (hi : L[i]? = some (.row e 1 (.slice (some ⟨g, 0, .none⟩) n cap) n xs))
    (off dLen dCap : Nat) (ad : Addr) (sLen sCap : Nat) (hd : a.eval d = .slice (some ⟨g, off, .none⟩) dLen dCap) (hs : a.eval s = .slice (some ad) sLen sCap)
    (cs : List Value) (hn : cs.length = Nat.min sLen dLen) (hsrc : ∀ j v, cs[j]? = some v → w.cell? (ad.add j) = some v) (hfit : off + cs.length ≤ n) (h1 : ∀ v ∈ cs, v.oneCell' = true)
    (hk : ∀ w', Hp B w0 w' (L.set i (.row e 1 (.slice (some ⟨g, 0, .none⟩) n cap) n (xs.take off ++ cs ++ xs.drop (off + cs.length)))) → wpList P ops Q rest (a.put o.dst (goInt cs.length)) w') :
    wpList P ops Q (o :: rest) a w := by
  refine wpList_plain hgd fun K hK => ?_
  obtain ⟨w', hrun, hp⟩ := run_copy_hp (P := P) h i (ty := o.type) T hi off dLen dCap ad sLen sCap cs hn hsrc hfit h1
  unfold Oper.wp
  simp [execOp, hop, resolve, invoke, builtin, hd, hs, hrun, Result.andThen]
  exact hK _ _ (hk w' hp)
theorem step_copy_hp {P : Program} {ops : Array Oper} {o : Oper} {a : Act} {K : Act → World → Prop} {Q : Exit → Act → World → Prop} {E : Prop} (hgd : o.guard = .none) (d s : Operand) (t : TypeId)
    (hop : o.op = .call { callee := .builtin .copy, args := #[d, s], argTypes := #[t, t] })
    (h : Hp B w0 w L) (i : Nat) {e : TypeId} {bytes : Nat} {z : Value} (T : SlTy P t e 1 bytes z) {g n cap : Nat} {xs : List Value} (hi : L[i]? = some (.row e 1 (.slice (some ⟨g, 0, .none⟩) n cap) n xs))
    (off dLen dCap : Nat) (ad : Addr) (sLen sCap : Nat) (hd : a.eval d = .slice (some ⟨g, off, .none⟩) dLen dCap) (hs : a.eval s = .slice (some ad) sLen sCap)
    (cs : List Value) (hn : cs.length = Nat.min sLen dLen) (hsrc : ∀ j v, cs[j]? = some v → w.cell? (ad.add j) = some v) (hfit : off + cs.length ≤ n) (h1 : ∀ v ∈ cs, v.oneCell' = true)
    (hk : ∀ w', Hp B w0 w' (L.set i (.row e 1 (.slice (some ⟨g, 0, .none⟩) n cap) n (xs.take off ++ cs ++ xs.drop (off + cs.length)))) → K (a.put o.dst (goInt cs.length)) w') :
    if Region.wanted o (yielded ops a.tmps) = true then Oper.wp P o a w K Q else E := by
  have hw : Region.wanted o (yielded ops a.tmps) = true := by simp [Region.wanted, hgd]
  rw [if_pos hw]
  obtain ⟨w', hrun, hp⟩ := run_copy_hp (P := P) h i (ty := o.type) T hi off dLen dCap ad sLen sCap cs hn hsrc hfit h1
  unfold Oper.wp
  simp [execOp, hop, resolve, invoke, builtin, hd, hs, hrun, Result.andThen]
  exact hk w' hp
end
end Go.Proofs.YtpfemholpigdeaaDoor
namespace Go.Proofs.YtpfemholpigdeaaDoor
open Go.RowKit
theorem mul1_any (n : Nat) (hn : n ≤ 1000000) (w : World) :
    Calls Tryd.prog 111 #[.int .u64 1, .int .u64 (n : Int)] w fun e w' => e = .returned (.tuple #[.int .u64 0, .int .u64 (n : Int)]) ∧ w = w' := by
  refine (Tryd.bits_Mul 1 n (by omega) (by omega) w).mono fun e w' ⟨h1, h2⟩ => ⟨?_, h2.symm⟩
  rw [h1, Nat.one_mul, Nat.div_eq_of_lt (by omega), Nat.mod_eq_of_lt (by omega)]
  rfl
set_option maxRecDepth 100000 in
set_option maxHeartbeats 2000000 in
theorem repeat_any (v : Value) (c : Int) (n : Nat) (hn : n ≤ 1000000) (w : World) (h : Ints w v [c]) :
    Calls Tryd.prog 89 #[v, .int .i64 (n : Int)] w fun e w' => ∃ g, e = .returned (.slice (some ⟨g, 0, none⟩) n n) ∧ Hp w.heap.size w w' [.row 3 1 (.slice (some ⟨g, 0, none⟩) n n) n (ints (List.replicate n c))] := by
  obtain ⟨a, cap, rfl, hl, hc⟩ := h.at
  obtain ⟨b, off, rfl, hcell⟩ := hc 0 (by simp)
  simp only [List.length_cons, List.length_nil, List.getElem_cons_zero, Nat.add_zero, Nat.zero_add] at *
  clear hc hl
  by_cases hn0 : n = 0
  · subst hn0
    go_enter Tryd.func89, Tryd.ntmps89
    go_wp2_with fail
    refine (mul1_any 0 (by omega) _).mono ?_
    rintro e w1 ⟨rfl, rfl⟩
    go_wp2_with (first
      | (at_make; refine wpList_make_hp rfl (.tmp 29) (.tmp 29) 38 rfl TInts rfl (Hp.refl _) .i64 .i64 _ _ 0 rfl rfl rfl rfl (by omega) (by omega) ?_; intro g w1 hp1)
      | (refine wpList_copy_nothing rfl (.tmp 31) (.tmp 32) 38 38 rfl 3 TInts.und (by kernel_rfl) _ _ _ _ _ _ rfl rfl rfl ?_))
    go_loopw [8] (fun i wr => i = .int .i64 0 ∧ Quiet w1 wr) (fun i _ => 0)
    case atStart => exact ⟨rfl, Quiet.refl _⟩
    case round =>
      obtain ⟨rfl, hq⟩ := hrel
      go_wp2_with fail
      go_ret
      exact ⟨_, rfl, hp1.quiet hq⟩
  · go_enter Tryd.func89, Tryd.ntmps89
    go_wp2_with fail
    refine (mul1_any n hn _).mono ?_
    rintro e w1 ⟨rfl, rfl⟩
    go_wp2_with (first
      | (at_make; refine wpList_make_hp rfl (.tmp 29) (.tmp 29) 38 rfl TInts rfl (Hp.refl _) .i64 .i64 _ _ n rfl rfl rfl rfl (by omega) (by omega) ?_; intro g w1 hp1)
      | (refine wpList_copy_hp rfl (.tmp 31) (.tmp 32) 38 rfl hp1 0 TInts rfl 0 n n ⟨b, off, none⟩ 1 cap rfl rfl [.int .i64 c] (Nat.min_eq_left (show 1 ≤ n by omega)).symm (src1 ((hp1.below.cell (World.block_lt_of_cell? w _ hcell)).trans hcell)) (by simp;omega) (by simp [Value.oneCell']) ?_; intro w2 hp2))
    go_loopw [8] (fun i wr => ∃ (m : Nat) (xs : List Int), 1 ≤ m ∧ m ≤ n ∧ i = .int .i64 m ∧ Hid (xs.length = n ∧ ∀ j, j < m → xs[j]? = some c) ∧
        Hp w.heap.size w wr [.row 3 1 (.slice (some ⟨g, 0, none⟩) n n) n (ints xs)]) (fun i _ => n - (intOf i).toNat)
    case atStart =>
      have h1 : (c :: List.replicate (n - 1) (0 : Int)).length = n := by simp;omega
      have h2 : ∀ j, j < 1 → (c :: List.replicate (n - 1) (0 : Int))[j]? = some c := by
        intro j hj
        obtain rfl : j = 0 := by omega
        rfl
      refine ⟨1, c :: List.replicate (n - 1) 0, by omega, by omega, rfl, ⟨h1, h2⟩, ?_⟩
      have e : ints (c :: List.replicate (n - 1) 0) = List.take 0 (List.replicate n (Value.int .i64 0)) ++ [.int .i64 c] ++ List.drop (0 + 1) (List.replicate n (Value.int .i64 0)) := by
        simp [ints]
      rw [e]
      exact hp2
    case round =>
      clear hp2 hp1 hcell
      obtain ⟨m, xs, hm1, hmn, rfl, hxs, hp⟩ := hrel
      by_cases hlt : m < n
      · obtain ⟨k, hk⟩ : ∃ k, k = Nat.min m (n - m) := ⟨_, rfl⟩
        have hkm : k ≤ m := by rw [hk]; exact Nat.min_le_left _ _
        have hkn : k ≤ n - m := by rw [hk]; exact Nat.min_le_right _ _
        have hk1 : 1 ≤ k := by rw [hk]; exact Nat.le_min.2 ⟨hm1, by omega⟩
        have HK := Lib.hid hk; clear hk
        obtain ⟨rc, rf, rb, rl⟩ := hp.rowAt 0 rfl
        have hsrc : ∀ j v, (List.replicate k (Value.int .i64 c))[j]? = some v → wr.cell? ((⟨g, 0, none⟩ : Addr).add j) = some v := by
          intro j v hj
          have hjk : j < k := by
            have := (List.getElem?_eq_some_iff.1 hj).1
            simpa using this
          rw [List.getElem?_replicate, if_pos hjk] at hj
          have e : (⟨g, 0, none⟩ : Addr).add j = ⟨g, j, none⟩ := by unfold Addr.add; split <;> simp_all
          rw [e, rc j (by omega)]
          rw [← hj, ints, List.getElem?_map, hxs.out.2 j (by omega)]
          rfl
        have HSRC := Lib.hid hsrc; clear hsrc rc rf
        have hne : ¬ n = m := by omega
        have hwr : IntKind.i64.wrap ((m : Int) + (k : Int)) = (m : Int) + (k : Int) := by rw [IntKind.wrap_i64] <;> omega
        go_wp2_with fail
        go_region_held3 (fun _ => True) (trivial)
          ((refine step_copy_hp (by rfl) (.tmp 41) (.tmp 44) 38 (by rfl) hp.drew 0 TInts rfl m (n - m) (n - m) ⟨g, 0, none⟩ m n (by rfl) (by rfl) (List.replicate k (.int .i64 c)) (by rw [List.length_replicate]; exact HK.out) HSRC.out (by rw [List.length_replicate];omega) (by intro v hv; rw [List.eq_of_mem_replicate hv]; rfl) ?_; intro w2 hp2))
        go_wp2_with fail
        go_roundw
        case rel =>
          refine ⟨m + k, xs.take m ++ List.replicate k c ++ xs.drop (m + k), by omega, by omega, by rw [← Int.natCast_add], ⟨?_, ?_⟩, ?_⟩
          · have := hxs.out.1
            simp only [List.length_append, List.length_take, List.length_drop, List.length_replicate]
            omega
          · intro j hj
            have hl := hxs.out.1
            have e1 : (xs.take m).length = m := by rw [List.length_take];omega
            rw [List.append_assoc]
            rcases Nat.lt_or_ge j m with h1 | h1
            · rw [List.getElem?_append_left (by omega), List.getElem?_take, if_pos h1]
              exact hxs.out.2 j h1
            · rw [List.getElem?_append_right (by omega), List.getElem?_append_left (by rw [List.length_replicate];omega), List.getElem?_replicate, if_pos (by omega)]
          · have e : ints (xs.take m ++ List.replicate k c ++ xs.drop (m + k)) = List.take m (ints xs) ++ List.replicate k (Value.int .i64 c) ++ List.drop (m + (List.replicate k (Value.int .i64 c)).length) (ints xs) := by
              simp [ints]
            rw [e]
            exact hp2
        case measure => simp [intOf];omega
      · obtain rfl : m = n := by omega
        have hx : xs = List.replicate m c := by
          apply List.ext_getElem?
          intro j
          rcases Nat.lt_or_ge j m with h1 | h1
          · rw [hxs.out.2 j h1, List.getElem?_replicate, if_pos h1]
          · rw [List.getElem?_eq_none (by rw [hxs.out.1]; exact h1), List.getElem?_eq_none (by simpa using h1)]
        subst hx
        go_wp2_with fail
        go_ret
        exact ⟨_, rfl, hp⟩
end Go.Proofs.YtpfemholpigdeaaDoor
namespace Go.Proofs.YtpfemholpigdeaaDoor
open Go.RowKit
def put1 (xs : List Int) (d : Dt) : List Int := xs.set d.node.toNat d.fr
def put2 (xs : List Int) (d : Dt) : List Int := xs.set d.node.toNat d.tl
def loOf (n : Nat) (ds : List Dt) : List Int := ds.foldl put1 (List.replicate n (-5000))
def hiOf (n : Nat) (ds : List Dt) : List Int := ds.foldl put2 (List.replicate n 5000)
theorem put1_take (ds : List Dt) (xs : List Int) (j : Nat) (hj : j < ds.length) : (ds.take (j + 1)).foldl put1 xs = ((ds.take j).foldl put1 xs).set ds[j].node.toNat ds[j].fr := by
  rw [List.take_succ_eq_append_getElem hj, List.foldl_append]; rfl
theorem put2_take (ds : List Dt) (xs : List Int) (j : Nat) (hj : j < ds.length) : (ds.take (j + 1)).foldl put2 xs = ((ds.take j).foldl put2 xs).set ds[j].node.toNat ds[j].tl := by
  rw [List.take_succ_eq_append_getElem hj, List.foldl_append]; rfl
theorem put1_len (ds : List Dt) : ∀ xs : List Int, (ds.foldl put1 xs).length = xs.length := by
  induction ds with
  | nil => intro xs; rfl
  | cons d ds ih => intro xs; rw [List.foldl_cons, ih]; simp [put1]
theorem put2_len (ds : List Dt) : ∀ xs : List Int, (ds.foldl put2 xs).length = xs.length := by
  induction ds with
  | nil => intro xs; rfl
  | cons d ds ih => intro xs; rw [List.foldl_cons, ih]; simp [put2]
theorem loOf_len (n : Nat) (ds : List Dt) : (loOf n ds).length = n := by rw [loOf, put1_len, List.length_replicate]
theorem hiOf_len (n : Nat) (ds : List Dt) : (hiOf n ds).length = n := by rw [hiOf, put2_len, List.length_replicate]
theorem Hp.bcell {B : Nat} {w0 w : World} {L : List Res} (h : Hp B w0 w L) : ∀ b o, b < B → w.cell? ⟨b, o, .none⟩ = w0.cell? ⟨b, o, .none⟩ := fun b o hb => h.below.cell (p := ⟨b, o, .none⟩) hb
theorem Hp.box0 {B : Nat} {w0 w : World} {e : TypeId} {g : Nat} {c : Value} {cs : List Value} {L : List Res} (h : Hp B w0 w (.box e g (c :: cs) :: L)) : w.cell? ⟨g, 0, .none⟩ = some c := (h.boxAt 0 rfl).1 0
section
variable {B : Nat} {w0 w w' : World} {e : TypeId} {g : Nat} {c : Value} {cs : List Value} {L : List Res}
theorem s1_grow (h : Hp B w0 w (.box e g (c :: cs) :: L) ∧ w.cell? ⟨g, 0, .none⟩ = some c) (hb : Below w.heap.size w w') : Hp B w0 w' (.box e g (c :: cs) :: L) ∧ w'.cell? ⟨g, 0, .none⟩ = some c := ⟨h.1.grow hb, (h.1.grow hb).box0⟩
theorem s1_alloc (h : Hp B w0 w (.box e g (c :: cs) :: L) ∧ w.cell? ⟨g, 0, .none⟩ = some c) (o : Obj) : Hp B w0 (w.alloc o) (.box e g (c :: cs) :: L) ∧ (w.alloc o).cell? ⟨g, 0, .none⟩ = some c := ⟨h.1.alloc0 o, (h.1.alloc0 o).box0⟩
theorem s1_drew (h : Hp B w0 w (.box e g (c :: cs) :: L) ∧ w.cell? ⟨g, 0, .none⟩ = some c) : Hp B w0 w.drew (.box e g (c :: cs) :: L) ∧ w.drew.cell? ⟨g, 0, .none⟩ = some c := ⟨h.1.drew, h.1.drew.box0⟩
end
theorem ints_one {w : World} {b : Nat} {c : Int} (h : w.cell? ⟨b, 0, none⟩ = some (.int .i64 c)) : Ints w (.slice (some ⟨b, 0, none⟩) 1 1) [c] :=
  ⟨by simp, ⟨_, _, rfl, .inr ⟨b, 0, rfl, fun j hj => by
    obtain rfl : j = 0 := by simpa using hj
    simpa using h⟩⟩, fun a m c' hv => by simp only [Value.slice.injEq] at hv;omega⟩
def RepP (n : Nat) (c : Int) (w : World) (e : Ending) (w' : World) : Prop := ∃ g, e = .returned (.slice (some ⟨g, 0, none⟩) n n) ∧ Hp w.heap.size w w' [.row 3 1 (.slice (some ⟨g, 0, none⟩) n n) n (ints (List.replicate n c))]
theorem rep_at (c : Int) (n : Nat) (hn : n ≤ 1000000) (b : Nat) (w : World) (h : w.cell? ⟨b, 0, none⟩ = some (.int .i64 c)) :
    Calls Tryd.prog 89 #[.slice (some ⟨b, 0, none⟩) 1 1, .int .i64 (n : Int)] w (RepP n c w) := repeat_any _ c n hn w (ints_one h)
set_option maxRecDepth 100000 in
set_option maxHeartbeats 8000000 in
theorem bounds_any (ev pv dv : Value) (na : Option Addr) (nn ncap : Nat) (ds : List Dt) (w : World) (hd : Dats w dv ds) (hn : nn ≤ 64) (hok : ∀ d ∈ ds, 0 ≤ d.node ∧ d.node < nn) :
    Calls Tryd.prog 64 #[.agg #[.slice na nn ncap, ev, pv], dv] w fun e w' => ∃ g1 c1 g2 c2, e = .returned (.tuple #[.slice (some ⟨g1, 0, none⟩) nn c1, .slice (some ⟨g2, 0, none⟩) nn c2]) ∧
      Hp w.heap.size w w' [.row 3 1 (.slice (some ⟨g1, 0, none⟩) nn c1) nn (ints (loOf nn ds)), .row 3 1 (.slice (some ⟨g2, 0, none⟩) nn c2) nn (ints (hiOf nn ds))] := by
  obtain ⟨a, cap, rfl, hlen, hc⟩ := hd.at
  have HD := Lib.hid hd; clear hd
  have HC := Lib.hid hc; clear hc
  have HOK := Lib.hid hok; clear hok
  have hp0 := (Hp.refl w).box 26 #[.slice na nn ncap, ev, pv]
  go_enter Tryd.func64, Tryd.ntmps64
  go_upto_region 1 with fail
  go_cut [4, 5] (fun s4 s5 wx => ∃ g1 g2, s4 = .slice (some ⟨g1, 0, none⟩) nn nn ∧ s5 = .slice (some ⟨g2, 0, none⟩) nn nn ∧
      Hp w.heap.size w wx [.row 3 1 (.slice (some ⟨g1, 0, none⟩) nn nn) nn (ints (List.replicate nn (-5000))), .row 3 1 (.slice (some ⟨g2, 0, none⟩) nn nn) nn (ints (List.replicate nn 5000)), .box 26 w.heap.size [.slice na nn ncap, ev, pv]])
  case first =>
    have b0 := (hp0.boxAt 0 rfl).1 0
    have hS0 : Hp w.heap.size w (w.alloc (.cells #[.slice na nn ncap, ev, pv] 26)) [.box 26 w.heap.size [.slice na nn ncap, ev, pv]] := hp0
    go_region_held3 (fun w' => Hp w.heap.size w w' [.box 26 w.heap.size [.slice na nn ncap, ev, pv]] ∧ w'.cell? ⟨w.heap.size, 0, none⟩ = some (.slice na nn ncap))
      (first
        | exact ⟨hS0.drew, Hp.box0 hS0.drew⟩
        | exact ⟨hS0, Hp.box0 hS0⟩
        | exact s1_alloc (by assumption) _
        | exact s1_drew (s1_alloc (by assumption) _)
        | exact s1_grow (by assumption) hqB.below
        | exact s1_grow (by assumption) hqA.below)
      (first
        | (go_at_call 89; refine (rep_at (-5000) nn (by omega) _ _ ?_).mono ?_; (go_simp); rintro e w1 ⟨gA, rfl, hqA⟩; have hcA := hqA.bcell; have sA := hqA.below.size; try simp only [World.size_alloc, World.size_drew] at hcA sA)
        | (go_at_call 89; refine (rep_at 5000 nn (by omega) _ _ ?_).mono ?_; (go_simp); rintro e w1 ⟨gB, rfl, hqB⟩; have hcB := hqB.bcell; have sB := hqB.below.size; try simp only [World.size_alloc, World.size_drew] at hcB sB))
    all_goals
      go_wp2_with fail
      go_meet
      first
        | exact ⟨gA, gB, rfl, rfl, ((((hS0.alloc0 _).alloc0 _).drew.call hqA).call hqB).swap⟩
        | exact ⟨gA, gB, rfl, rfl, ((((hS0.alloc0 _).drew.call hqA).alloc0 _).call hqB).swap⟩
  case rest =>
    obtain ⟨g1, g2, rfl, rfl, hp⟩ := hcut
    go_wp2_with fail
    go_loopw [20] (fun i wr => ∃ j : Nat, j ≤ ds.length ∧ i = .int .i64 j ∧ Hp w.heap.size w wr [.row 3 1 (.slice (some ⟨g1, 0, none⟩) nn nn) nn (ints ((ds.take j).foldl put1 (List.replicate nn (-5000)))), .row 3 1 (.slice (some ⟨g2, 0, none⟩) nn nn) nn (ints ((ds.take j).foldl put2 (List.replicate nn 5000)))])
       (fun i _ => ds.length - (intOf i).toNat)
    case atStart => exact ⟨0, by omega, rfl, hp.sub (by simp)⟩
    case round =>
      clear hp
      obtain ⟨j, hj, rfl, hp⟩ := hrel
      by_cases hlt : j < ds.length
      · obtain ⟨b, off, rfl, d0, d1, d2⟩ := HC.out j hlt
        have hb := hp.below
        have d0 := (hb.cell (World.block_lt_of_cell? w _ d0)).trans d0
        have d1 := (hb.cell (World.block_lt_of_cell? w _ d1)).trans d1
        have d2 := (hb.cell (World.block_lt_of_cell? w _ d2)).trans d2
        obtain ⟨n0, n1⟩ := HOK.out ds[j] (List.getElem_mem hlt)
        have H1 := Lib.hid (put1_take ds (List.replicate nn (-5000)) j hlt)
        have H2 := Lib.hid (put2_take ds (List.replicate nn 5000) j hlt)
        obtain ⟨rc6, rf6, rb6, rl6⟩ := hp.rowAt 0 rfl
        obtain ⟨rc7, rf7, rb7, rl7⟩ := hp.rowAt 1 rfl
        have e6 := rc6 ds[j].node.toNat (by omega)
        have e7 := rc7 ds[j].node.toNat (by omega)
        rw [ints_get _ _ (by rw [put1_len]; simp;omega)] at e6
        rw [ints_get _ _ (by rw [put2_len]; simp;omega)] at e7
        have f6 := rf6 ds[j].node.toNat
        have f7 := rf7 ds[j].node.toNat
        have hne : g1 ≠ g2 := hp.blkNe (i := 0) (j := 1) (by decide) rfl rfl rfl rfl
        clear rc6 rc7 rf6 rf7 hb
        generalize ds[j].node = nd at *
        generalize ds[j].fr = nf at *
        generalize ds[j].tl = nt at *
        generalize (List.foldl put1 (List.replicate nn (-5000)) (List.take j ds)).getD nd.toNat 0 = x1 at *
        generalize (List.foldl put2 (List.replicate nn 5000) (List.take j ds)).getD nd.toNat 0 = x2 at *
        go_wp2
        go_region
        go_wp2
        go_roundw
        case rel => exact ⟨j + 1, by omega, by go_num, by rw [H1.out, H2.out, ← ints_set, ← ints_set]; exact (((hp.setRow (i := 0) rfl _ _).setRow (i := 1) rfl _ _).alloc0 _).drew⟩
        case measure => simp [intOf];omega
      · obtain rfl : j = ds.length := by omega
        rw [List.take_length] at hp
        go_wp2
        go_ret2
        exact ⟨_, _, _, _, rfl, hp⟩
end Go.Proofs.YtpfemholpigdeaaDoor
namespace Go.Proofs.YtpfemholpigdeaaDoor
open Go.RowKit
def upE (i : Nat) (xs : List Int) (p : Int) : List Int := xs.set i (max (xs.getD i 0) (xs.getD p.toNat 0))
def nodeE (par : List (List Int)) (xs : List Int) (i : Nat) : List Int := (par.getD i []).foldl (upE i) xs
def earl (par : List (List Int)) (xs : List Int) : Nat → List Int
  | 0 => xs
  | k + 1 => nodeE par (earl par xs k) k
def dnL (i : Nat) (xs : List Int) (p : Int) : List Int := xs.set p.toNat (min (xs.getD p.toNat 0) (xs.getD i 0))
def nodeL (par : List (List Int)) (xs : List Int) (i : Nat) : List Int := (par.getD i []).foldl (dnL i) xs
def late (par : List (List Int)) (xs : List Int) : Nat → List Int
  | 0 => xs
  | k + 1 => late par (nodeL par xs k) k
theorem fold_len {α : Type} (f : List Int → α → List Int) (hf : ∀ xs a, (f xs a).length = xs.length) (l : List α) : ∀ xs : List Int, (l.foldl f xs).length = xs.length := by
  induction l with
  | nil => intro xs; rfl
  | cons a l ih => intro xs; rw [List.foldl_cons, ih, hf]
theorem upE_len (i : Nat) (xs : List Int) (p : Int) : (upE i xs p).length = xs.length := by simp [upE]
theorem dnL_len (i : Nat) (xs : List Int) (p : Int) : (dnL i xs p).length = xs.length := by simp [dnL]
theorem nodeE_len (par : List (List Int)) (xs : List Int) (i : Nat) : (nodeE par xs i).length = xs.length := fold_len _ (upE_len i) _ _
theorem nodeL_len (par : List (List Int)) (xs : List Int) (i : Nat) : (nodeL par xs i).length = xs.length := fold_len _ (dnL_len i) _ _
theorem earl_len (par : List (List Int)) (xs : List Int) (k : Nat) : (earl par xs k).length = xs.length := by
  induction k with
  | zero => rfl
  | succ k ih => rw [earl, nodeE_len, ih]
theorem late_len (par : List (List Int)) (k : Nat) : ∀ xs : List Int, (late par xs k).length = xs.length := by
  induction k with
  | zero => intro xs; rfl
  | succ k ih => intro xs; rw [late, ih, nodeL_len]
theorem fold_take {α β : Type} (f : β → α → β) (l : List α) (b : β) (k : Nat) (h : k < l.length) : (l.take (k + 1)).foldl f b = f ((l.take k).foldl f b) l[k] := by
  rw [List.take_succ_eq_append_getElem h, List.foldl_append]; rfl
def HandP (f : Nat → List Int → Int → List Int) (B : Nat) (w0 : World) (L : List Res) (g n cap : Nat) (xs : List Int) (ps : List Int) (i : Nat) (e : Ending) (w' : World) : Prop :=
  e = .returned (.tuple #[]) ∧ Hp B w0 w' (.row 3 1 (.slice (some ⟨g, 0, none⟩) n cap) n (ints (ps.foldl (f i) xs)) :: L)
set_option maxRecDepth 100000 in
set_option maxHeartbeats 4000000 in
theorem handE_any (w0 w : World) (g n cap ob sb : Nat) (c0 c1 pv : Value) (par : List (List Int)) (xs : List Int) (i : Nat)
    (hp : Hp w0.heap.size w0 w [.row 3 1 (.slice (some ⟨g, 0, none⟩) n cap) n (ints xs), .box 38 ob [.slice (some ⟨g, 0, none⟩) n cap], .box 26 sb [c0, c1, pv]])
    (hP : Tabs w0 pv par) (hn : par.length = n) (hn64 : n ≤ 64) (hx : xs.length = n) (hok : okPar par) (hi : i < n) :
    Calls Tryd.prog 120 #[.int .i64 (i : Int), .pointer (some ⟨sb, 0, none⟩), .pointer (some ⟨ob, 0, none⟩)] w
      (HandP upE w0.heap.size w0 [.box 38 ob [.slice (some ⟨g, 0, none⟩) n cap], .box 26 sb [c0, c1, pv]] g n cap xs (par.getD i []) i) := by
  have hip : i < par.length := by omega
  have hgp : par.getD i [] = par[i] := by simp [hip]
  obtain ⟨pa, pcap, rfl, hpl, hT⟩ := hP.at
  obtain ⟨pb, poff, u, rfl, hpc, hpi⟩ := hT i hip
  obtain ⟨ra, rcap, rfl, hrl, hr⟩ := hpi.at
  have hokp := hok i hip
  have hpc := (hp.below.cell (World.block_lt_of_cell? w0 _ hpc)).trans hpc
  clear hok hT hpi hP
  have HR := Lib.hid hr; clear hr
  rw [hgp]
  generalize hps : par[i] = ps at *
  have HX := Lib.hid hx; clear hx
  have HOK := Lib.hid hokp; clear hokp
  have H1 := Lib.hid hn; clear hn
  clear hps hgp
  obtain ⟨bc, bf, _, _⟩ := hp.boxAt 2 rfl
  have b2 := bc 2
  clear bc bf
  go_enter Tryd.func120, Tryd.ntmps120
  go_wp2_with fail
  go_loopw [12] (fun v wr => ∃ k : Nat, k ≤ ps.length ∧ v = .int .i64 k ∧
      Hp w0.heap.size w0 wr [.row 3 1 (.slice (some ⟨g, 0, none⟩) n cap) n (ints ((ps.take k).foldl (upE i) xs)), .box 38 ob [.slice (some ⟨g, 0, none⟩) n cap], .box 26 sb [c0, c1, .slice (some ⟨pb, poff, none⟩) par.length pcap]]) (fun v _ => ps.length - (intOf v).toNat)
  case atStart => exact ⟨0, by omega, rfl, hp⟩
  case round =>
    clear hp b2 hpc
    obtain ⟨k, hk, rfl, hp⟩ := hrel
    by_cases hlt : k < ps.length
    · obtain ⟨rb, roff, rfl, r0⟩ := HR.out k hlt
      have r0 := (hp.below.cell (World.block_lt_of_cell? w0 _ r0)).trans r0
      obtain ⟨p0, p1⟩ := HOK.out ps[k] (List.getElem_mem hlt)
      have HF := Lib.hid (fold_take (upE i) ps xs k hlt)
      have hl : ((ps.take k).foldl (upE i) xs).length = n := by rw [fold_len _ (upE_len i)]; exact HX.out
      obtain ⟨rc, rf, rbb, rbl⟩ := hp.rowAt 0 rfl
      have e1 := rc i (by omega)
      have e2 := rc ps[k].toNat (by omega)
      have f1 := rf i
      obtain ⟨oc, _, _, _⟩ := hp.boxAt 1 rfl
      have o0 := oc 0
      have hne : g ≠ ob := hp.blkNe (i := 0) (j := 1) (by decide) rfl rfl rfl rfl
      rw [ints_get _ _ (by omega)] at e1
      rw [ints_get _ _ (by omega)] at e2
      clear rc rf oc
      have HL := Lib.hid hl; clear hl
      generalize hcur : (ps.take k).foldl (upE i) xs = cur at *
      have hup : upE i cur ps[k] = cur.set i (max (cur.getD i 0) (cur.getD ps[k].toNat 0)) := rfl
      have HUP := Lib.hid hup; clear hup
      have HCUR := Lib.hid hcur; clear hcur
      generalize ps[k] = p at *
      generalize cur.getD i 0 = x1 at *
      generalize cur.getD p.toNat 0 = x2 at *
      go_wp2_with fail
      go_region
      go_wp2_with fail
      go_roundw
      case rel =>
        refine ⟨k + 1, by omega, by go_num, ?_⟩
        rw [HF.out, HUP.out, ← ints_set]
        exact (hp.setRow (i := 0) rfl _ _).drew
      case measure => simp [intOf];omega
    · obtain rfl : k = ps.length := by omega
      rw [List.take_length] at hp
      go_wp2_with fail
      go_end0
      exact ⟨rfl, hp⟩
set_option maxRecDepth 100000 in
set_option maxHeartbeats 4000000 in
theorem handL_any (w0 w : World) (g n cap ob sb : Nat) (c0 c1 pv : Value) (par : List (List Int)) (xs : List Int) (i : Nat)
    (hp : Hp w0.heap.size w0 w [.row 3 1 (.slice (some ⟨g, 0, none⟩) n cap) n (ints xs), .box 38 ob [.slice (some ⟨g, 0, none⟩) n cap], .box 26 sb [c0, c1, pv]])
    (hP : Tabs w0 pv par) (hn : par.length = n) (hn64 : n ≤ 64) (hx : xs.length = n) (hok : okPar par) (hi : i < n) :
    Calls Tryd.prog 121 #[.int .i64 (i : Int), .pointer (some ⟨sb, 0, none⟩), .pointer (some ⟨ob, 0, none⟩)] w
      (HandP dnL w0.heap.size w0 [.box 38 ob [.slice (some ⟨g, 0, none⟩) n cap], .box 26 sb [c0, c1, pv]] g n cap xs (par.getD i []) i) := by
  have hip : i < par.length := by omega
  have hgp : par.getD i [] = par[i] := by simp [hip]
  obtain ⟨pa, pcap, rfl, hpl, hT⟩ := hP.at
  obtain ⟨pb, poff, u, rfl, hpc, hpi⟩ := hT i hip
  obtain ⟨ra, rcap, rfl, hrl, hr⟩ := hpi.at
  have hokp := hok i hip
  have hpc := (hp.below.cell (World.block_lt_of_cell? w0 _ hpc)).trans hpc
  clear hok hT hpi hP
  have HR := Lib.hid hr; clear hr
  rw [hgp]
  generalize hps : par[i] = ps at *
  have HX := Lib.hid hx; clear hx
  have HOK := Lib.hid hokp; clear hokp
  have H1 := Lib.hid hn; clear hn
  clear hps hgp
  obtain ⟨bc, bf, _, _⟩ := hp.boxAt 2 rfl
  have b2 := bc 2
  clear bc bf
  go_enter Tryd.func121, Tryd.ntmps121
  go_wp2_with fail
  go_loopw [12] (fun v wr => ∃ k : Nat, k ≤ ps.length ∧ v = .int .i64 k ∧
      Hp w0.heap.size w0 wr [.row 3 1 (.slice (some ⟨g, 0, none⟩) n cap) n (ints ((ps.take k).foldl (dnL i) xs)), .box 38 ob [.slice (some ⟨g, 0, none⟩) n cap], .box 26 sb [c0, c1, .slice (some ⟨pb, poff, none⟩) par.length pcap]]) (fun v _ => ps.length - (intOf v).toNat)
  case atStart => exact ⟨0, by omega, rfl, hp⟩
  case round =>
    clear hp b2 hpc
    obtain ⟨k, hk, rfl, hp⟩ := hrel
    by_cases hlt : k < ps.length
    · obtain ⟨rb, roff, rfl, r0⟩ := HR.out k hlt
      have r0 := (hp.below.cell (World.block_lt_of_cell? w0 _ r0)).trans r0
      obtain ⟨p0, p1⟩ := HOK.out ps[k] (List.getElem_mem hlt)
      have HF := Lib.hid (fold_take (dnL i) ps xs k hlt)
      have hl : ((ps.take k).foldl (dnL i) xs).length = n := by rw [fold_len _ (dnL_len i)]; exact HX.out
      obtain ⟨rc, rf, rbb, rbl⟩ := hp.rowAt 0 rfl
      have e1 := rc i (by omega)
      have e2 := rc ps[k].toNat (by omega)
      have f1 := rf ps[k].toNat
      obtain ⟨oc, _, _, _⟩ := hp.boxAt 1 rfl
      have o0 := oc 0
      have hne : g ≠ ob := hp.blkNe (i := 0) (j := 1) (by decide) rfl rfl rfl rfl
      rw [ints_get _ _ (by omega)] at e1
      rw [ints_get _ _ (by omega)] at e2
      clear rc rf oc
      have HL := Lib.hid hl; clear hl
      generalize hcur : (ps.take k).foldl (dnL i) xs = cur at *
      have hup : dnL i cur ps[k] = cur.set ps[k].toNat (min (cur.getD ps[k].toNat 0) (cur.getD i 0)) := rfl
      have HUP := Lib.hid hup; clear hup
      have HCUR := Lib.hid hcur; clear hcur
      generalize ps[k] = p at *
      generalize cur.getD i 0 = x1 at *
      generalize cur.getD p.toNat 0 = x2 at *
      go_wp2_with fail
      go_region
      go_wp2_with fail
      go_roundw
      case rel =>
        refine ⟨k + 1, by omega, by go_num, ?_⟩
        rw [HF.out, HUP.out, ← ints_set]
        exact (hp.setRow (i := 0) rfl _ _).drew
      case measure => simp [intOf];omega
    · obtain rfl : k = ps.length := by omega
      rw [List.take_length] at hp
      go_wp2_with fail
      go_end0
      exact ⟨rfl, hp⟩
end Go.Proofs.YtpfemholpigdeaaDoor
