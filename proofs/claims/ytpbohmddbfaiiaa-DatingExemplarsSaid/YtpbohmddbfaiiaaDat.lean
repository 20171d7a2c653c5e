/-
  Dates: how they read, and the number that their check computes. No statement of the seat is proved here.
-/
import Derived.Test.YtpbohmddbfaiiaaStemR
import Derived.Test.YtpbohmddbfaiiaaMap
namespace Go.Proofs.Ytpbohmddbfaiiaa
open Go.RowKit

structure Dt where
  node : Int
  fr : Int
  to : Int
def dcells (ds : List Dt) : List Value := ds.flatMap fun d => [.int .i64 d.node, .int .i64 d.fr, .int .i64 d.to]
/-- A slice of dates. -/
structure Dats (w : World) (v : Value) (ds : List Dt) : Prop where
  sl : Sl w v 3 ds.length (fun j => (dcells ds).getD j undef)
  bd : ∀ d ∈ ds, (-9223372036854775808 ≤ d.node ∧ d.node ≤ 9223372036854775807) ∧ (-9223372036854775808 ≤ d.fr ∧ d.fr ≤ 9223372036854775807) ∧ (-9223372036854775808 ≤ d.to ∧ d.to ≤ 9223372036854775807)

theorem dcells_at (ds : List Dt) (j : Nat) (hj : j < ds.length) : (dcells ds)[j * 3]? = some (.int .i64 ds[j].node) ∧ (dcells ds)[j * 3 + 1]? = some (.int .i64 ds[j].fr) ∧ (dcells ds)[j * 3 + 2]? = some (.int .i64 ds[j].to) := by
  induction ds generalizing j with
  | nil => simp at hj
  | cons d ds ih =>
    cases j with
    | zero => simp [dcells]
    | succ j =>
      have := ih j (by simpa using hj)
      have e : ∀ i, (dcells (d :: ds))[(j + 1) * 3 + i]? = (dcells ds)[j * 3 + i]? := by
        intro i
        have : (j + 1) * 3 + i = (j * 3 + i) + 3 := by omega
        rw [this]
        simp [dcells]
      have e0 := e 0
      simp only [Nat.add_zero] at e0
      rw [e0, e 1, e 2]
      simpa using this

theorem Dats.at {w : World} {v : Value} {ds : List Dt} (h : Dats w v ds) : ∃ a cap, v = .slice a ds.length cap ∧ ds.length ≤ 140737488355328 ∧ ∀ j, (hj : j < ds.length) → ∃ b off, a = some ⟨b, off, none⟩ ∧ w.cell? ⟨b, off + j * 3, none⟩ = some (.int .i64 ds[j].node) ∧
    w.cell? ⟨b, off + j * 3 + 1, none⟩ = some (.int .i64 ds[j].fr) ∧ w.cell? ⟨b, off + j * 3 + 2, none⟩ = some (.int .i64 ds[j].to) := by
  obtain ⟨a, cap, hv, hl, hc⟩ := h.sl.shape
  refine ⟨a, cap, hv, hl, fun j hj => ?_⟩
  obtain ⟨b, off, ha, h0⟩ := hc (j * 3) (by omega)
  obtain ⟨b', off', ha', h1⟩ := hc (j * 3 + 1) (by omega)
  obtain ⟨b'', off'', ha'', h2⟩ := hc (j * 3 + 2) (by omega)
  rw [ha] at ha' ha''
  simp only [Option.some.injEq, Addr.mk.injEq, and_true] at ha' ha''
  obtain ⟨rfl, rfl⟩ := ha'
  obtain ⟨rfl, rfl⟩ := ha''
  obtain ⟨e0, e1, e2⟩ := dcells_at ds j hj
  refine ⟨b, off, ha, ?_, ?_, ?_⟩
  · rw [h0]; simp [e0]
  · rw [Nat.add_assoc, h1]; simp [e1]
  · rw [Nat.add_assoc, h2]; simp [e2]

theorem Dats.below {w w' : World} {v : Value} {ds : List Dt} (h : Dats w v ds) (hb : Below w.heap.size w w') : Dats w' v ds := ⟨h.sl.below hb, h.bd⟩

def dBad (n : Nat) (d : Dt) : Prop := d.node < 0 ∨ (n : Int) ≤ d.node ∨ d.fr < -5000 ∨ 5000 < d.fr ∨ d.to < -5000 ∨ 5000 < d.to
instance (n : Nat) (d : Dt) : Decidable (dBad n d) := by unfold dBad; infer_instance
def dtAt (n : Nat) (ds : List Dt) (i : Nat) : Int :=
  if dBad n (ds.getD i ⟨0, 0, 0⟩) then 2
  else if (ds.getD i ⟨0, 0, 0⟩).to < (ds.getD i ⟨0, 0, 0⟩).fr then 10
  else if (ds.take i).any (fun e => e.node == (ds.getD i ⟨0, 0, 0⟩).node) = true then 7 else 0
def dCheck (s : Stem) (ds : List Dt) : Int := if stCheck s ≠ 0 then 1 else firstErr (dtAt s.names.length ds) ds.length

theorem dCheck_at (s : Stem) (ds : List Dt) (k : Nat) (h0 : stCheck s = 0) (hk : k < ds.length) (hf : firstErr (dtAt s.names.length ds) k = 0) (e : Int) (hs : dtAt s.names.length ds k = e) (hne : e ≠ 0) : dCheck s ds = e := by
  rw [dCheck, if_neg (by rw [h0]; simp), firstErr_hit _ k _ hf (by rw [hs]; exact hne) hk, hs]
theorem dCheck_ok (s : Stem) (ds : List Dt) (h0 : stCheck s = 0) (hf : firstErr (dtAt s.names.length ds) ds.length = 0) : dCheck s ds = 0 := by
  rw [dCheck, if_neg (by rw [h0]; simp), hf]
theorem dtAt_eq (n : Nat) (ds : List Dt) (k : Nat) (hk : k < ds.length) : dtAt n ds k = if dBad n ds[k] then 2 else if ds[k].to < ds[k].fr then 10 else if (ds.take k).any (fun e => e.node == ds[k].node) = true then 7 else 0 := by
  rw [dtAt]; simp [hk]

/-- Which nodes have been seen. -/
def seenF (ds : List Dt) (k : Nat) : Lit → Option Value := fun l => if (ds.take k).any (fun e => l.sameKey (.int .i64 e.node)) = true then some (.bool true) else none
theorem seenF_zero (ds : List Dt) : seenF ds 0 = fun _ => none := by
  funext l; simp [seenF]
theorem seenF_succ (ds : List Dt) (k : Nat) (hk : k < ds.length) : putF (seenF ds k) (.int .i64 ds[k].node) (.bool true) = seenF ds (k + 1) := by
  funext l
  unfold putF seenF
  rw [List.take_succ_eq_append_getElem hk, List.any_append]
  by_cases h1 : l.sameKey (.int .i64 ds[k].node) = true
  · rw [if_pos h1, if_pos (by simp [h1])]
  · rw [if_neg h1]
    simp [h1]
theorem seenF_get (ds : List Dt) (k : Nat) (x : Int) : (seenF ds k (.int .i64 x)).getD (.bool false) = .bool ((ds.take k).any (fun e => e.node == x)) := by
  unfold seenF
  have e : (fun e : Dt => Lit.sameKey (.int .i64 x) (.int .i64 e.node)) = (fun e => e.node == x) := by
    funext e
    simp only [Lit.sameKey, true_and]
    rw [Bool.eq_iff_iff]
    simp only [decide_eq_true_eq, beq_iff_eq]
    exact ⟨fun h => h.symm, fun h => h.symm⟩
  rw [e]
  cases h : (ds.take k).any (fun e => e.node == x) with
  | true => rw [if_pos rfl]; rfl
  | false => rw [if_neg (by simp)]; rfl

theorem zeroBool (w : World) : (zeroValue 4).run Try.prog w = .ok (.bool false) w := by kernel_rfl
end Go.Proofs.Ytpbohmddbfaiiaa
