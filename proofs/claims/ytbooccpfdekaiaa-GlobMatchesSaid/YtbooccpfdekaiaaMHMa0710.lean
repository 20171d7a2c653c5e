/-
  Part 10 of the proof: Gf07, Stl. No statement of the seat is proved here.
-/
import Derived.Test.YtbooccpfdekaiaaMHMa079
import Derived.StringKeys
namespace Go.Proofs.Ytbooccpfdekaiaa
open Go.RowKit
theorem prts_len (p : List UInt8) : (prts p).length ≤ p.length := by
  have : ∀ (f : Nat) (p : List UInt8), (prtsF f p).length ≤ f := by
    intro f
    induction f with
    | zero => intro p; exact Nat.le_refl _
    | succ f ih =>
      intro p
      unfold prtsF
      split
      · exact Nat.zero_le _
      · rw [List.length_cons]
        exact Nat.succ_le_succ (ih _)
  exact this _ _
theorem pat_len (p : List UInt8) : (pat p).length ≤ p.length := by unfold pat; rw [List.length_map]; exact prts_len p
theorem elsC_at : ∀ (xs : List (List UInt8)) (lo i : Nat) (x : List UInt8), xs[i]? = some x → ∀ c, c < 259 → (elsC lo xs)[i * 259 + c]? = (xC (elAny x) (elHas x) ((lo + (xs.take i).flatten.length : Nat) : Int) ((lo + (xs.take i).flatten.length + x.length : Nat) : Int))[c]?
  | [], _, i, _, h, _, _ => by simp at h
  | y :: xs, lo, 0, x, h, c, hc => by
    rw [List.getElem?_cons_zero] at h
    cases h
    rw [elsC_cons, Nat.zero_mul, Nat.zero_add, List.getElem?_append_left (by rw [xC_len]; exact hc)]
    rfl
  | y :: xs, lo, i + 1, x, h, c, hc => by
    rw [List.getElem?_cons_succ] at h
    rw [elsC_cons, Nat.succ_mul, List.getElem?_append_right (by rw [xC_len];omega), xC_len, show i * 259 + 259 + c - 259 = i * 259 + c by omega, elsC_at xs _ i x h c hc, List.take_succ_cons, List.flatten_cons, List.length_append, Nat.add_assoc lo]
def elsF (xs : List (List UInt8)) (j : Nat) : Value := (elsC 0 xs).getD j undef
theorem Hp.esR {B : Nat} {w0 w : World} {L : List Res} (h : Hp B w0 w L) (i : Nat) {e : TypeId} {v : Value} {xs : List (List UInt8)} (hi : L[i]? = some (.row e 259 v xs.length (elsC 0 xs))) (hn : xs.length ≤ 64) : EsR w v (xs.map elCor) := by
  refine ⟨elsF xs, ?_, ?_⟩
  · rw [List.length_map]
    refine h.sl i hi (by omega) fun j hj => ?_
    unfold elsF
    have : j < (elsC 0 xs).length := by rw [elsC_len]; exact hj
    rw [List.getD_eq_getElem?_getD, List.getElem?_eq_getElem this]
    rfl
  · intro k x hx
    rw [List.getElem?_map, Option.map_eq_some_iff] at hx
    obtain ⟨y, hy, rfl⟩ := hx
    constructor
    · unfold elsF
      rw [List.getD_eq_getElem?_getD, elsC_at xs 0 k y hy 0 (by decide), xC_at0]
      unfold elCor
      cases elAny y <;> rfl
    · intro g hg c hc
      unfold elsF
      rw [List.getD_eq_getElem?_getD, elsC_at xs 0 k y hy (1 + c) (by omega), xC_atc _ _ _ _ c hc]
      unfold elCor at hg
      split at hg
      · cases hg
      · cases hg
        rfl
def elsRes (v : Value) (p : List UInt8) : Res := .row 51 259 v (prts p).length (elsC 0 (prts p))
theorem elements_bad (p : List UInt8) (w : World) (hp : p.length ≤ 140737488355328) (h : patE p ≠ 0) : SatV Try.prog 34 [.string (bOf p)] w (.tuple #[.slice none 0 0, .int .i64 (patE p)]) :=
  (elements_sat p w hp).mono (by
    rintro u L (⟨_, rfl, rfl⟩ | ⟨h1, _⟩)
    · exact ⟨rfl, rfl⟩
    · exact absurd h1 h)
theorem elements_ok (p : List UInt8) (w : World) (hp : p.length ≤ 140737488355328) (h : patE p = 0) : Sat Try.prog 34 [.string (bOf p)] w (fun u L => ∃ v, u = .tuple #[v, .int .i64 0] ∧ L = [elsRes v p]) :=
  (elements_sat p w hp).mono (by
    rintro u L (⟨h1, _⟩ | ⟨_, v, rfl, rfl⟩)
    · exact absurd h h1
    · exact ⟨v, rfl, rfl⟩)
theorem patE_len {p : List UInt8} (h : patE p = 0) : p.length ≤ 64 ∧ errP p = 0 := by
  unfold patE at h
  split at h
  · cases h
  · exact ⟨by omega, h⟩
theorem Hp.elsR {B : Nat} {w0 w : World} {L : List Res} (h : Hp B w0 w L) (i : Nat) {v : Value} {p : List UInt8} (hi : L[i]? = some (elsRes v p)) (hp : patE p = 0) : EsR w v (pat p) :=
  h.esR i hi (Nat.le_trans (prts_len p) (patE_len hp).1)
theorem patE_bd (p : List UInt8) : -9223372036854775808 ≤ patE p ∧ patE p ≤ 9223372036854775807 := by
  have hel : ∀ q, 0 ≤ elErr q ∧ elErr q ≤ 11 := by
    intro q
    unfold elErr
    split
    · decide
    · repeat' split
      all_goals decide
  have : ∀ (f : Nat) (q : List UInt8), 0 ≤ errF f q ∧ errF f q ≤ 11 := by
    intro f
    induction f with
    | zero => intro q; exact (⟨Int.le_refl 0, by decide⟩ : (0 : Int) ≤ 0 ∧ (0 : Int) ≤ 11)
    | succ f ih =>
      intro q
      unfold errF
      split
      · decide
      · split
        · exact hel q
        · exact ih _
  have := this p.length p
  unfold patE errP
  split
  · decide
  · omega
def mtcE (p s : List UInt8) : Int := if patE p ≠ 0 then 1 else chkS s
def mtcB (p s : List UInt8) : Bool := if mtcE p s ≠ 0 then false else mtB (pat p) s
theorem chkS_bd (s : List UInt8) : chkS s = 0 ∨ chkS s = 4 ∨ chkS s = 11 := by
  unfold chkS
  split
  · exact .inr (.inl rfl)
  · split
    · exact .inr (.inr rfl)
    · exact .inl rfl
set_option maxRecDepth 100000 in
set_option maxHeartbeats 4000000 in
theorem Match_sat (p s : List UInt8) (w : World) (hp : p.length ≤ 140737488355328) (hs : s.length ≤ 140737488355328) : SatV Try.prog 14 [.string (bOf p), .string (bOf s)] w (.tuple #[.bool (mtcB p s), .int .i64 (mtcE p s)]) := by
  by_cases h : patE p = 0
  · have e1 : mtcE p s = chkS s := if_neg (fun hh => hh h)
    have hl := (patE_len h).1
    have hpl := pat_len p
    by_cases h2 : chkS s = 0
    · have e2 : mtcB p s = mtB (pat p) s := if_neg (fun hh => hh (by rw [e1, h2]))
      rw [e1, e2, h2]
      refine SatL.of 24 [4, 5] Try.func14 (by kernel_rfl) (by kernel_rfl) rfl rfl rfl rfl ?_
      repeat' (first|(apply OK_seq)|(apply thenQ_n)|(apply OK_region)|(apply OKx_gc 34;exact rfl; refine OKx_call (f := 34) rfl rfl (fun w1 hp1 => elements_ok p w1 hp h) ?_; rintro _ _ ⟨v, rfl, rfl⟩)|(apply OKx_gc 35;exact rfl; refine OKx_callV (f := 35) (v := .int .i64 0) rfl rfl rfl (fun w1 hp1 => by have := chkS_sat s w1 hs; rwa [h2] at this) ?_)|(apply OKx_gc 36;exact rfl; refine OKx_callV (f := 36) rfl rfl rfl (fun w1 hp1 => matches_sat v (pat p) s w1 (hp1.elsR 0 rfl h) (by omega) hs) ?_)|(apply OKx_nilK)|(apply OK_block)|(apply blockQ_n)|(apply blockQ_s)|(apply thenQ_e)|(apply blockQ_e;exact rfl)|(apply thenQ_r)|(apply blockQ_r)|(apply OK_condT;exact rfl)|(apply OK_condF;exact rfl)|(apply OK_skip)|(apply OK_exit)|(apply OK_ret)|(apply OKx_move;(conv=>lhs;whnf)<;>exact rfl)|(apply OKx_assign;(conv=>lhs;whnf)<;>exact rfl)|(apply OKx_neq;exact rfl;exact rfl;all_goals (intro _; try (exfalso;omega)))|(apply OKx_extract;exact rfl;(conv=>lhs;whnf)<;>exact rfl))
      refine bodyQ_r2 (by ((conv=>lhs;whnf)<;>exact rfl)) (by ((conv=>lhs;whnf)<;>exact rfl)) ?_
      exact ⟨_, Ent.nil, rfl, rfl⟩
    · have e2 : mtcB p s = false := if_pos (by rw [e1]; exact h2)
      rw [e1, e2]
      refine SatL.of 24 [4, 5] Try.func14 (by kernel_rfl) (by kernel_rfl) rfl rfl rfl rfl ?_
      repeat' (first|(apply OK_seq)|(apply thenQ_n)|(apply OK_region)|(apply OKx_gc 34;exact rfl; refine OKx_call (f := 34) rfl rfl (fun w1 hp1 => elements_ok p w1 hp h) ?_; rintro _ _ ⟨v, rfl, rfl⟩)|(apply OKx_gc 35;exact rfl; refine OKx_callV (f := 35) rfl rfl rfl (fun w1 hp1 => chkS_sat s w1 hs) ?_)|(apply OKx_nilK)|(apply OK_block)|(apply blockQ_n)|(apply blockQ_s)|(apply thenQ_e)|(apply blockQ_e;exact rfl)|(apply thenQ_r)|(apply blockQ_r)|(apply OK_condT;exact rfl)|(apply OK_condF;exact rfl)|(apply OK_skip)|(apply OK_exit)|(apply OK_ret)|(apply OKx_move;(conv=>lhs;whnf)<;>exact rfl)|(apply OKx_assign;(conv=>lhs;whnf)<;>exact rfl)|(apply OKx_neq;exact rfl;exact rfl;all_goals (intro _; try (exfalso;omega)))|(apply OKx_extract;exact rfl;(conv=>lhs;whnf)<;>exact rfl))
      refine bodyQ_r2 (by ((conv=>lhs;whnf)<;>exact rfl)) (by ((conv=>lhs;whnf)<;>exact rfl)) ?_
      exact ⟨_, Ent.nil, rfl, rfl⟩
  · have e1 : mtcE p s = 1 := if_pos h
    have e2 : mtcB p s = false := if_pos (by rw [e1]; decide)
    rw [e1, e2]
    refine SatL.of 24 [4, 5] Try.func14 (by kernel_rfl) (by kernel_rfl) rfl rfl rfl rfl ?_
    repeat' (first|(apply OK_seq)|(apply thenQ_n)|(apply OK_region)|(apply OKx_gc 34;exact rfl; refine OKx_callV (f := 34) rfl rfl rfl (fun w1 hp1 => elements_bad p w1 hp h) ?_)|(apply OKx_nilK)|(apply OK_block)|(apply blockQ_n)|(apply blockQ_s)|(apply thenQ_e)|(apply blockQ_e;exact rfl)|(apply thenQ_r)|(apply blockQ_r)|(apply OK_condT;exact rfl)|(apply OK_condF;exact rfl)|(apply OK_skip)|(apply OK_exit)|(apply OK_ret)|(apply OKx_move;(conv=>lhs;whnf)<;>exact rfl)|(apply OKx_assign;(conv=>lhs;whnf)<;>exact rfl)|(apply OKx_neq;exact rfl;exact rfl;all_goals (intro _; try (exfalso;omega)))|(apply OKx_extract;exact rfl;(conv=>lhs;whnf)<;>exact rfl))
    refine bodyQ_r2 (by ((conv=>lhs;whnf)<;>exact rfl)) (by ((conv=>lhs;whnf)<;>exact rfl)) ?_
    exact ⟨_, Ent.nil, rfl, rfl⟩
end Go.Proofs.Ytbooccpfdekaiaa
namespace Go.Proofs.Ytbooccpfdekaiaa
open Go.RowKit Go.Maps
def MxL (w : World) : Prop := ∃ m, w.cell? ⟨0, 0, none⟩ = some (.int .i64 m)
theorem MxL.below {w w' : World} (h : MxL w) (hb : Below w.heap.size w w') : MxL w' := by
  obtain ⟨m, hm⟩ := h
  refine ⟨m, ?_⟩
  rw [← hm]
  have hlt : 0 < w.heap.size := by
    unfold World.cell? at hm
    cases h : w.heap[0]? with
    | none => simp [h] at hm
    | some o => exact (Array.getElem?_eq_some_iff.1 h).1
  unfold World.cell?
  rw [hb.block _ hlt]
end Go.Proofs.Ytbooccpfdekaiaa
