/-
  Part 11 of the proof: Gf07, Stl, Bld, Pe27, Pk27, Pp27. No statement of the seat is proved here.
-/
import Derived.Test.YthnlnffmmioapaaDoorMHUs2710
import Derived.StringKeys
import Derived.Lib.Join
import Derived.Shelf.Strings.BuilderF
import Derived.Shelf.Strings.OnBuilder
namespace Go.Proofs.YthnlnffmmioapaaDoor
open Go.RowKit
theorem prts_len (p : List UInt8) : (prts p).length ≤ p.length := by
  have : ∀ (f : Nat) (p : List UInt8), (prtsF f p).length ≤ f := by
    intro f
    induction f with
    | zero => intro p; exact Nat.le_refl _
    | succ f ih =>
      intro p
      unfold prtsF
      split
      · exact Nat.zero_le _
      · rw [List.length_cons]
        exact Nat.succ_le_succ (ih _)
  exact this _ _
theorem pat_len (p : List UInt8) : (pat p).length ≤ p.length := by unfold pat; rw [List.length_map]; exact prts_len p
theorem elsC_at : ∀ (xs : List (List UInt8)) (lo i : Nat) (x : List UInt8), xs[i]? = some x → ∀ c, c < 259 → (elsC lo xs)[i * 259 + c]? = (xC (elAny x) (elHas x) ((lo + (xs.take i).flatten.length : Nat) : Int) ((lo + (xs.take i).flatten.length + x.length : Nat) : Int))[c]?
  | [], _, i, _, h, _, _ => by simp at h
  | y :: xs, lo, 0, x, h, c, hc => by
    rw [List.getElem?_cons_zero] at h
    cases h
    rw [elsC_cons, Nat.zero_mul, Nat.zero_add, List.getElem?_append_left (by rw [xC_len]; exact hc)]
    rfl
  | y :: xs, lo, i + 1, x, h, c, hc => by
    rw [List.getElem?_cons_succ] at h
    rw [elsC_cons, Nat.succ_mul, List.getElem?_append_right (by rw [xC_len];omega), xC_len, show i * 259 + 259 + c - 259 = i * 259 + c by omega, elsC_at xs _ i x h c hc, List.take_succ_cons, List.flatten_cons, List.length_append, Nat.add_assoc lo]
def elsF (xs : List (List UInt8)) (j : Nat) : Value := (elsC 0 xs).getD j undef
theorem Hp.esR {B : Nat} {w0 w : World} {L : List Res} (h : Hp B w0 w L) (i : Nat) {e : TypeId} {v : Value} {xs : List (List UInt8)} (hi : L[i]? = some (.row e 259 v xs.length (elsC 0 xs))) (hn : xs.length ≤ 64) : EsR w v (xs.map elCor) := by
  refine ⟨elsF xs, ?_, ?_⟩
  · rw [List.length_map]
    refine h.sl i hi (by omega) fun j hj => ?_
    unfold elsF
    have : j < (elsC 0 xs).length := by rw [elsC_len]; exact hj
    rw [List.getD_eq_getElem?_getD, List.getElem?_eq_getElem this]
    rfl
  · intro k x hx
    rw [List.getElem?_map, Option.map_eq_some_iff] at hx
    obtain ⟨y, hy, rfl⟩ := hx
    constructor
    · unfold elsF
      rw [List.getD_eq_getElem?_getD, elsC_at xs 0 k y hy 0 (by decide), xC_at0]
      unfold elCor
      cases elAny y <;> rfl
    · intro g hg c hc
      unfold elsF
      rw [List.getD_eq_getElem?_getD, elsC_at xs 0 k y hy (1 + c) (by omega), xC_atc _ _ _ _ c hc]
      unfold elCor at hg
      split at hg
      · cases hg
      · cases hg
        rfl
def elsRes (v : Value) (p : List UInt8) : Res := .row 135 259 v (prts p).length (elsC 0 (prts p))
theorem elements_bad (p : List UInt8) (w : World) (hp : p.length ≤ 140737488355328) (h : patE p ≠ 0) : SatV Tryd.prog 86 [.string (bOf p)] w (.tuple #[.slice none 0 0, .int .i64 (patE p)]) :=
  (elements_sat p w hp).mono (by
    rintro u L (⟨_, rfl, rfl⟩ | ⟨h1, _⟩)
    · exact ⟨rfl, rfl⟩
    · exact absurd h1 h)
theorem elements_ok (p : List UInt8) (w : World) (hp : p.length ≤ 140737488355328) (h : patE p = 0) : Sat Tryd.prog 86 [.string (bOf p)] w (fun u L => ∃ v, u = .tuple #[v, .int .i64 0] ∧ L = [elsRes v p]) :=
  (elements_sat p w hp).mono (by
    rintro u L (⟨h1, _⟩ | ⟨_, v, rfl, rfl⟩)
    · exact absurd h h1
    · exact ⟨v, rfl, rfl⟩)
theorem patE_len {p : List UInt8} (h : patE p = 0) : p.length ≤ 64 ∧ errP p = 0 := by
  unfold patE at h
  split at h
  · cases h
  · exact ⟨by omega, h⟩
theorem Hp.elsR {B : Nat} {w0 w : World} {L : List Res} (h : Hp B w0 w L) (i : Nat) {v : Value} {p : List UInt8} (hi : L[i]? = some (elsRes v p)) (hp : patE p = 0) : EsR w v (pat p) :=
  h.esR i hi (Nat.le_trans (prts_len p) (patE_len hp).1)
set_option maxRecDepth 100000 in
set_option maxHeartbeats 4000000 in
theorem gCheck_sat (p : List UInt8) (w : World) (hp : p.length ≤ 140737488355328) : SatV Tryd.prog 79 [.string (bOf p)] w (.int .i64 (patE p)) := by
  by_cases h : patE p = 0
  · rw [h]
    refine SatL.of 11 [2] Tryd.func79 (by kernel_rfl) (by kernel_rfl) rfl rfl rfl rfl ?_
    repeat' (first|(apply OK_seq)|(apply thenQ_n)|(apply OK_region)|(apply OKx_gc 86;exact rfl; refine OKx_call (f := 86) rfl rfl (fun w1 hp1 => elements_ok p w1 hp h) ?_; rintro _ _ ⟨v, rfl, rfl⟩)|(apply OKx_nilK)|(apply OK_block)|(apply blockQ_n)|(apply blockQ_s)|(apply thenQ_e)|(apply blockQ_e;exact rfl)|(apply thenQ_r)|(apply blockQ_r)|(apply OK_condT;exact rfl)|(apply OK_condF;exact rfl)|(apply OK_skip)|(apply OK_exit)|(apply OK_ret)|(apply OKx_move;(conv=>lhs;whnf)<;>exact rfl)|(apply OKx_assign;(conv=>lhs;whnf)<;>exact rfl)|(apply OKx_extract;exact rfl;(conv=>lhs;whnf)<;>exact rfl))
    refine bodyQ_r1 (by ((conv=>lhs;whnf)<;>exact rfl)) ?_
    exact ⟨_, Ent.nil, rfl, rfl⟩
  · refine SatL.of 11 [2] Tryd.func79 (by kernel_rfl) (by kernel_rfl) rfl rfl rfl rfl ?_
    repeat' (first|(apply OK_seq)|(apply thenQ_n)|(apply OK_region)|(apply OKx_gc 86;exact rfl; refine OKx_callV (f := 86) rfl rfl rfl (fun w1 hp1 => elements_bad p w1 hp h) ?_)|(apply OKx_nilK)|(apply OK_block)|(apply blockQ_n)|(apply blockQ_s)|(apply thenQ_e)|(apply blockQ_e;exact rfl)|(apply thenQ_r)|(apply blockQ_r)|(apply OK_condT;exact rfl)|(apply OK_condF;exact rfl)|(apply OK_skip)|(apply OK_exit)|(apply OK_ret)|(apply OKx_move;(conv=>lhs;whnf)<;>exact rfl)|(apply OKx_assign;(conv=>lhs;whnf)<;>exact rfl)|(apply OKx_extract;exact rfl;(conv=>lhs;whnf)<;>exact rfl))
    refine bodyQ_r1 (by ((conv=>lhs;whnf)<;>exact rfl)) ?_
    exact ⟨_, Ent.nil, rfl, rfl⟩
def mtcE (p s : List UInt8) : Int := if patE p ≠ 0 then 1 else chkS s
def mtcB (p s : List UInt8) : Bool := if mtcE p s ≠ 0 then false else mtB (pat p) s
set_option maxRecDepth 100000 in
set_option maxHeartbeats 4000000 in
theorem Match_sat (p s : List UInt8) (w : World) (hp : p.length ≤ 140737488355328) (hs : s.length ≤ 140737488355328) : SatV Tryd.prog 149 [.string (bOf p), .string (bOf s)] w (.tuple #[.bool (mtcB p s), .int .i64 (mtcE p s)]) := by
  by_cases h : patE p = 0
  · have e1 : mtcE p s = chkS s := if_neg (fun hh => hh h)
    have hl := (patE_len h).1
    have hpl := pat_len p
    by_cases h2 : chkS s = 0
    · have e2 : mtcB p s = mtB (pat p) s := if_neg (fun hh => hh (by rw [e1, h2]))
      rw [e1, e2, h2]
      refine SatL.of 24 [4, 5] Tryd.func149 (by kernel_rfl) (by kernel_rfl) rfl rfl rfl rfl ?_
      repeat' (first|(apply OK_seq)|(apply thenQ_n)|(apply OK_region)|(apply OKx_gc 86;exact rfl; refine OKx_call (f := 86) rfl rfl (fun w1 hp1 => elements_ok p w1 hp h) ?_; rintro _ _ ⟨v, rfl, rfl⟩)|(apply OKx_gc 158;exact rfl; refine OKx_callV (f := 158) (v := .int .i64 0) rfl rfl rfl (fun w1 hp1 => by have := chkS_sat s w1 hs; rwa [h2] at this) ?_)|(apply OKx_gc 159;exact rfl; refine OKx_callV (f := 159) rfl rfl rfl (fun w1 hp1 => matches_sat v (pat p) s w1 (hp1.elsR 0 rfl h) (by omega) hs) ?_)|(apply OKx_nilK)|(apply OK_block)|(apply blockQ_n)|(apply blockQ_s)|(apply thenQ_e)|(apply blockQ_e;exact rfl)|(apply thenQ_r)|(apply blockQ_r)|(apply OK_condT;exact rfl)|(apply OK_condF;exact rfl)|(apply OK_skip)|(apply OK_exit)|(apply OK_ret)|(apply OKx_move;(conv=>lhs;whnf)<;>exact rfl)|(apply OKx_assign;(conv=>lhs;whnf)<;>exact rfl)|(apply OKx_neq;exact rfl;exact rfl;all_goals (intro _; try (exfalso;omega)))|(apply OKx_extract;exact rfl;(conv=>lhs;whnf)<;>exact rfl))
      refine bodyQ_r2 (by ((conv=>lhs;whnf)<;>exact rfl)) (by ((conv=>lhs;whnf)<;>exact rfl)) ?_
      exact ⟨_, Ent.nil, rfl, rfl⟩
    · have e2 : mtcB p s = false := if_pos (by rw [e1]; exact h2)
      rw [e1, e2]
      refine SatL.of 24 [4, 5] Tryd.func149 (by kernel_rfl) (by kernel_rfl) rfl rfl rfl rfl ?_
      repeat' (first|(apply OK_seq)|(apply thenQ_n)|(apply OK_region)|(apply OKx_gc 86;exact rfl; refine OKx_call (f := 86) rfl rfl (fun w1 hp1 => elements_ok p w1 hp h) ?_; rintro _ _ ⟨v, rfl, rfl⟩)|(apply OKx_gc 158;exact rfl; refine OKx_callV (f := 158) rfl rfl rfl (fun w1 hp1 => chkS_sat s w1 hs) ?_)|(apply OKx_nilK)|(apply OK_block)|(apply blockQ_n)|(apply blockQ_s)|(apply thenQ_e)|(apply blockQ_e;exact rfl)|(apply thenQ_r)|(apply blockQ_r)|(apply OK_condT;exact rfl)|(apply OK_condF;exact rfl)|(apply OK_skip)|(apply OK_exit)|(apply OK_ret)|(apply OKx_move;(conv=>lhs;whnf)<;>exact rfl)|(apply OKx_assign;(conv=>lhs;whnf)<;>exact rfl)|(apply OKx_neq;exact rfl;exact rfl;all_goals (intro _; try (exfalso;omega)))|(apply OKx_extract;exact rfl;(conv=>lhs;whnf)<;>exact rfl))
      refine bodyQ_r2 (by ((conv=>lhs;whnf)<;>exact rfl)) (by ((conv=>lhs;whnf)<;>exact rfl)) ?_
      exact ⟨_, Ent.nil, rfl, rfl⟩
  · have e1 : mtcE p s = 1 := if_pos h
    have e2 : mtcB p s = false := if_pos (by rw [e1]; decide)
    rw [e1, e2]
    refine SatL.of 24 [4, 5] Tryd.func149 (by kernel_rfl) (by kernel_rfl) rfl rfl rfl rfl ?_
    repeat' (first|(apply OK_seq)|(apply thenQ_n)|(apply OK_region)|(apply OKx_gc 86;exact rfl; refine OKx_callV (f := 86) rfl rfl rfl (fun w1 hp1 => elements_bad p w1 hp h) ?_)|(apply OKx_nilK)|(apply OK_block)|(apply blockQ_n)|(apply blockQ_s)|(apply thenQ_e)|(apply blockQ_e;exact rfl)|(apply thenQ_r)|(apply blockQ_r)|(apply OK_condT;exact rfl)|(apply OK_condF;exact rfl)|(apply OK_skip)|(apply OK_exit)|(apply OK_ret)|(apply OKx_move;(conv=>lhs;whnf)<;>exact rfl)|(apply OKx_assign;(conv=>lhs;whnf)<;>exact rfl)|(apply OKx_neq;exact rfl;exact rfl;all_goals (intro _; try (exfalso;omega)))|(apply OKx_extract;exact rfl;(conv=>lhs;whnf)<;>exact rfl))
    refine bodyQ_r2 (by ((conv=>lhs;whnf)<;>exact rfl)) (by ((conv=>lhs;whnf)<;>exact rfl)) ?_
    exact ⟨_, Ent.nil, rfl, rfl⟩
end Go.Proofs.YthnlnffmmioapaaDoor
namespace Go.Proofs.YthnlnffmmioapaaDoor
open Go.RowKit Go.Maps
def MxL (w : World) : Prop := ∃ m, w.cell? ⟨2, 0, none⟩ = some (.int .i64 m)
theorem MxL.below {w w' : World} (h : MxL w) (hb : Below w.heap.size w w') : MxL w' := by
  obtain ⟨m, hm⟩ := h
  refine ⟨m, ?_⟩
  rw [← hm]
  have hlt : 2 < w.heap.size := by
    unfold World.cell? at hm
    cases h : w.heap[2]? with
    | none => simp [h] at hm
    | some o => exact (Array.getElem?_eq_some_iff.1 h).1
  unfold World.cell?
  rw [hb.block _ hlt]
theorem TKeyS : Keyed Tryd.prog 9 := string_keyed Tryd.underlying9
def litS (s : ByteArray) : Lit := .string s.data.toList
theorem keyS (s : ByteArray) (h : s.size ≤ 140737488355328) : keyOf Tryd.prog 9 (.string s) = some (litS s) := WideMaps.keyOf_string_mk Tryd.underlying9 (by unfold maxLen;omega)
theorem litS_key (s : ByteArray) : WideAt.IsKeyLit (litS s) := trivial
theorem putF_str (F : Lit → Option Value) (a b : ByteArray) (v : Value) : putF F (litS a) v (litS b) = if a = b then some v else F (litS b) := by
  unfold putF
  by_cases h : a = b
  · subst h
    rw [if_pos (WideAt.sameKey_self (litS_key a)), if_pos rfl]
  · rw [if_neg h, if_neg]
    intro e
    unfold litS at e
    simp only [Lit.sameKey, beq_iff_eq] at e
    apply h
    rw [← bOf_data a, ← bOf_data b, e]
end Go.Proofs.YthnlnffmmioapaaDoor
namespace Go.Proofs.YthnlnffmmioapaaDoor
open Go.RowKit
def ren166 : Go.Shelf.Ren := ⟨fun | 166 => 67 | 240 => 81 | 276 => 87 | n => n,
  fun | 0 => 0 | 3 => 3 | 4 => 4 | 5 => 5 | 9 => 9 | 20 => 20 | 37 => 101 | 70 => 100 | 72 => 103 | 75 => 105 | 80 => 110 | 164 => 129 | n => n, fun | n => n⟩
theorem lays166 : Go.Proofs.Lays.n166 Tryd.prog ren166 := {
  mixed := by kernel_rfl
  f166 := Tryd.func67.trans (congrArg some (by kernel_rfl))
  f240 := Tryd.func81.trans (congrArg some (by kernel_rfl))
  f276 := Tryd.func87.trans (congrArg some (by kernel_rfl))
  t0 := Tryd.underlying0
  a0 := Tryd.isAgg0
  z0 := Tryd.sizeOf0
  v0 := Tryd.zeroValue0
  t3 := Tryd.underlying3
  a3 := Tryd.isAgg3
  z3 := Tryd.sizeOf3
  v3 := Tryd.zeroValue3
  t4 := Tryd.underlying4
  a4 := Tryd.isAgg4
  z4 := Tryd.sizeOf4
  v4 := Tryd.zeroValue4
  t9 := Tryd.underlying9
  a9 := Tryd.isAgg9
  z9 := Tryd.sizeOf9
  v9 := Tryd.zeroValue9
  t20 := Tryd.underlying20
  a20 := Tryd.isAgg20
  z20 := Tryd.sizeOf20
  v20 := Tryd.zeroValue20
  t37 := Tryd.underlying101
  a37 := Tryd.isAgg101
  z37 := Tryd.sizeOf101
  v37 := Tryd.zeroValue101
  t70 := Tryd.underlying100
  a70 := Tryd.isAgg100
  z70 := Tryd.sizeOf100
  v70 := Tryd.zeroValue100
  t72 := Tryd.underlying103
  a72 := Tryd.isAgg103
  z72 := Tryd.sizeOf103
  v72 := Tryd.zeroValue103
  t75 := Tryd.underlying105
  a75 := Tryd.isAgg105
  z75 := Tryd.sizeOf105
  v75 := Tryd.zeroValue105
  t164 := Tryd.underlying129
  a164 := Tryd.isAgg129
  z164 := Tryd.sizeOf129
  v164 := Tryd.zeroValue129 }
theorem extra166 : Builder.Extra Tryd.prog ren166 := {
  sizeBuilder := by kernel_rfl
  liesBuilder := by kernel_rfl
  t5 := Tryd.underlying5
  a5 := Tryd.isAgg5
  z5 := Tryd.sizeOf5
  v5 := Tryd.zeroValue5
  infoByte := by kernel_rfl
  cellsByte := by kernel_rfl
  sizeByte := by kernel_rfl
  neB5 := by decide }
def bldL (b : Nat) (p v : Value) (l : List UInt8) : List Res := [.box 103 b [p, v], .row 5 1 v l.length (Lib.byteCells l)]
def bldP (b : Nat) (p : Value) : Prop := p = .pointer none ∨ p = .pointer (some ⟨b, 0, none⟩)
theorem byteCells_len (l : List UInt8) : (Lib.byteCells l).length = l.length := by simp [Lib.byteCells]
theorem bldL_is {w0 w : World} {b : Nat} {p v : Value} {l : List UInt8} {K : List Res} (hp : bldP b p) (h : Hp w0.heap.size w0 w (bldL b p v l ++ K)) : Lib.IsBuilder 103 5 w0.heap.size b (Lib.byteCells l) w := by
  have hb : w0.heap.size ≤ b ∧ w.heap[b]? = some (.cells [p, v].toArray 103 (0, 0)) := h.ok _ List.mem_cons_self
  have hr : w.ownsRow w0.heap.size 5 1 v l.length (Lib.byteCells l) := h.ok _ (List.mem_cons_of_mem _ List.mem_cons_self)
  have hd : (some b : Option Nat) = none ∨ some b ≠ v.ownBlock := (List.pairwise_cons.1 h.dj).1 _ List.mem_cons_self
  have hne : v.ownBlock ≠ some b := by
    rcases hd with hd | hd
    · cases hd
    · exact fun e => hd e.symm
  rcases hp with rfl | rfl
  · exact .inl ⟨hb.1, v, hb.2, by rw [byteCells_len]; exact hr, hne⟩
  · exact .inr ⟨hb.1, v, hb.2, by rw [byteCells_len]; exact hr, hne⟩
set_option maxRecDepth 100000 in
set_option maxHeartbeats 4000000 in
theorem copyCheck_sat (b : Nat) (p v : Value) (w0 : World) (K : List Res) (hp : bldP b p) :
    SatL Tryd.prog 81 [.pointer (some ⟨b, 0, none⟩)] w0 (.box 103 b [p, v] :: K) (fun u L => u = .tuple #[] ∧ L = .box 103 b [.pointer (some ⟨b, 0, none⟩), v] :: K) :=
  ⟨⟨_, _, Tryd.func81, by kernel_rfl, rfl⟩, fun w h => by
    have hb : w0.heap.size ≤ b ∧ w.heap[b]? = some (.cells [p, v].toArray 103 (0, 0)) := h.ok _ List.mem_cons_self
    have hc0 : w.cell? ⟨b, 0, none⟩ = some p := by simp [World.cell?, hb.2]
    rcases hp with rfl | rfl
    · have hc : Calls Tryd.prog 81 #[.pointer (some ⟨b, 0, none⟩)] w fun e w' => e = .returned (.tuple #[]) ∧ w' = w.setCell ⟨b, 0, none⟩ (.pointer (some ⟨b, 0, none⟩)) :=
        Any.Builder_copyCheck_fresh { lays166 with } { extra166 with } b w hc0 (by simp [World.shape?, hb.2]; rfl) (by simp [World.frozen?, hb.2])
      refine hc.mono ?_
      rintro e w' ⟨rfl, rfl⟩
      exact ⟨_, _, rfl, h.setBox (i := 0) rfl 0 _, rfl, rfl⟩
    · have hc : Calls Tryd.prog 81 #[.pointer (some ⟨b, 0, none⟩)] w fun e w' => e = .returned (.tuple #[]) ∧ w' = w :=
        Any.Builder_copyCheck_used { lays166 with } { extra166 with } b w hc0
      refine hc.mono ?_
      rintro e w' ⟨rfl, rfl⟩
      exact ⟨_, _, rfl, h, rfl, rfl⟩⟩
section
variable {n : Nat} {w0 : World} {K : Fm → List Res → Prop} {F : Fm} {L : List Res} {Lw : List Res} {ops : Array Oper} {rest : List Oper} {d : Option Nat} {ty : TypeId} {pos : String} {aft : Array Edge}
theorem blk_new {g k : Nat} {N c : Nat} {v' : Value} (e : v' = .slice (some ⟨g, 0, none⟩) N c) (hk : v'.ownBlock = some k) : k = g := by
  subst e
  simp only [Value.ownBlock, Option.some.injEq] at hk
  exact hk.symm
theorem OKx_appStr {s x : Operand} [hE : Keeps w0 L Lw] (i : Nat) {v : Value} {N : Nat} {xs : List Value} {sb : ByteArray} (hs : rv n F s = v) (hx : rv n F x = .string sb) (hi : L[i]? = some (.row 5 1 v N xs)) (hN : N + sb.size ≤ 140737488355328)
    (kk : ∀ a c, OKx Tryd.prog n w0 (.seq Lw) ops K rest (updo F d (.slice a (N + sb.size) c)) (L.set i (.row 5 1 (.slice a (N + sb.size) c) (N + sb.size) (xs ++ Lib.strCells sb)))) :
    OKx Tryd.prog n w0 (.seq Lw) ops K (⟨d, .call { callee := .builtin .append, args := #[s, x], argTypes := #[101, 9] }, ty, pos, aft, none⟩ :: rest) F L := by
  refine OKx_actW hE.ent fun w a hfr hp => wp_of_list (ops := ops) rfl ?_
  have hown : w.ownsRow w0.heap.size 5 1 v N xs := hp.ok _ (List.mem_of_getElem? hi)
  have hown0 := hown
  obtain ⟨ti, hti, hz0, hz1, hz2⟩ := info_parts extra166.infoByte
  have hti : Tryd.prog.info? 5 = some ti := hti
  obtain ⟨v', w', hr, h2, h3, h4⟩ := Lib.run_append_own_string (P := Tryd.prog) w w0.heap.size 101 9 ty 5 ti Tryd.underlying101 Tryd.underlying9 hti hz0 hz1 hz2 v N xs hown sb (by unfold maxLen;omega) hN hp.base
  have hblk : ∀ k, v'.ownBlock = some k → v.ownBlock = some k ∨ w.heap.size ≤ k := by
    intro k hk
    have hxl : xs.length = N := by simpa using hown0.1
    rcases hown0.2 with ⟨rfl, rfl⟩ | ⟨g, cap, cur, rfl, hbg, hg, hnc, hcm, hcs, htake⟩
    · by_cases hm : sb.size = 0
      · rw [h4.2 ⟨rfl, hm⟩] at hk
        cases hk
      · have hr2 := run_append_nil_string (P := Tryd.prog) w 101 9 ty 5 ti (.int .u8 0) Tryd.underlying101 Tryd.underlying9 hti hz0 sb (by omega) (by omega) (by rw [hz2];omega)
        rw [hr] at hr2
        simp only [Result.ok.injEq] at hr2
        exact .inr (by rw [blk_new hr2.1 hk]; exact Nat.le_refl _)
    · by_cases hroom : N + sb.size ≤ cap
      · have hcs' : cur.size = cap := by simpa using hcs
        have hr2 := Lib.run_append_room_string (P := Tryd.prog) w 101 9 ty 5 ti Tryd.underlying101 Tryd.underlying9 hti hz1 g N cap cur hg sb hroom (by omega)
        rw [hr] at hr2
        simp only [Result.ok.injEq] at hr2
        exact .inl (by rw [blk_new hr2.1 hk]; rfl)
      · have holds : ∀ j u, xs[j]? = some u → w.cell? ((⟨g, 0, none⟩ : Addr).add j) = some u := hown.cells (g := g) rfl
        have hr2 := Lib.run_append_grow_string (P := Tryd.prog) w 101 9 ty 5 ti (.int .u8 0) Tryd.underlying101 Tryd.underlying9 hti hz0 ⟨g, 0, none⟩ N cap xs (by rw [hz1]; simpa using hxl) holds sb (by omega) (by omega) (by rw [hz2]; exact growslice_fits (by omega) (by omega))
        rw [hr] at hr2
        simp only [Result.ok.injEq] at hr2
        exact .inr (by rw [blk_new hr2.1 hk]; exact Nat.le_refl _)
  obtain ⟨a2, c2, rfl⟩ : ∃ a2 c2, v' = .slice a2 (N + sb.size) c2 := by
    rcases h2.2 with ⟨rfl, h0⟩ | ⟨g, cap, cur, rfl, _⟩
    · exact ⟨none, 0, by rw [h0]⟩
    · exact ⟨_, _, rfl⟩
  refine wpList_plain rfl fun K' hK' => ?_
  unfold Oper.wp execOp
  simp only [resolve, invoke, builtin, Sem.run_bind, Sem.run_pure, Result.andThen_ok, List.map_toArray, List.map_cons, List.map_nil, hfr.eval, hs, hx, hr]
  exact hK' _ _ ⟨rfl, (kk a2 c2).use w' _ (hfr.put d _) (hp.turn hi h3 (r' := .row 5 1 (.slice a2 (N + sb.size) c2) (N + sb.size) (xs ++ Lib.strCells sb)) h2 hblk)⟩
end
theorem bytes_app (l : List UInt8) (s : ByteArray) : Lib.byteCells l ++ Lib.strCells s = Lib.byteCells (l ++ s.data.toList) := by
  have e : Lib.strCells s = Lib.byteCells s.data.toList := rfl
  rw [e]
  simp [Lib.byteCells]
set_option maxRecDepth 100000 in
set_option maxHeartbeats 4000000 in
theorem bldW_sat (b : Nat) (p v : Value) (l : List UInt8) (s : ByteArray) (w0 : World) (K : List Res) (hp : bldP b p) (hl : l.length + s.size ≤ 140737488355328) :
    SatL Tryd.prog 67 [.pointer (some ⟨b, 0, none⟩), .string s] w0 (bldL b p v l ++ K) (fun u L => u = .tuple #[.int .i64 s.size, .nilIface] ∧ ∃ v', L = bldL b (.pointer (some ⟨b, 0, none⟩)) v' (l ++ s.data.toList) ++ K) := by
  unfold bldL
  rw [List.cons_append, List.cons_append, List.nil_append]
  refine SatL.of 19 [4, 5] Tryd.func67 (by kernel_rfl) (by kernel_rfl) rfl rfl rfl rfl ?_
  repeat' (first|(apply OK_seq)|(apply thenQ_n)|(apply OK_region)|(apply OKx_gc 81;exact rfl; refine OKx_callL (f := 81) rfl rfl (copyCheck_sat b p v _ _ hp) ?_; rintro _ _ ⟨rfl, rfl⟩)|(apply OKx_gb; refine OKx_appStr 1 rfl rfl rfl (by omega) ?_; intro a2 c2)|(apply OKx_nilK)|(apply OK_block)|(apply blockQ_n)|(apply blockQ_s)|(apply thenQ_e)|(apply blockQ_e;exact rfl)|(apply thenQ_r)|(apply blockQ_r)|(apply OK_condT;exact rfl)|(apply OK_condF;exact rfl)|(apply OK_skip)|(apply OK_exit)|(apply OK_ret)|(apply OKx_move;(conv=>lhs;whnf)<;>exact rfl)|(apply OKx_assign;(conv=>lhs;whnf)<;>exact rfl)|(apply OKx_ldB;exact rfl;(first | exact at0|exact at1|exact at2|exact at3|exact at4|exact at5|exact at6|exact at7);exact rfl)|(apply OKx_ldR;(conv=>lhs;whnf)<;>exact rfl;(with_reducible assumption))|(apply OKx_lenS;exact rfl)|(apply OKx_fldO;exact rfl;exact rfl)|(apply OKx_fldR;(conv=>lhs;whnf)<;>exact rfl;(with_reducible assumption); decide;intro _ _)|(apply OKx_stB;exact rfl;(conv=>lhs;whnf)<;>exact rfl;exact rfl;exact rfl;(first | exact at0|exact at1|exact at2|exact at3|exact at4|exact at5|exact at6|exact at7);exact rfl;exact rfl;exact rfl)|(apply OKx_nilCheck;exact rfl))
  refine bodyQ_r2 (by ((conv=>lhs;whnf)<;>exact rfl)) (by ((conv=>lhs;whnf)<;>exact rfl)) ?_
  refine ⟨_, Ent.refl _ _, rfl, .slice a2 (l.length + s.size) c2, ?_⟩
  rw [bytes_app]
  have e : (l ++ s.data.toList).length = l.length + s.size := by rw [List.length_append]; rfl
  rw [e]
  rfl
set_option maxRecDepth 100000 in
set_option maxHeartbeats 4000000 in
theorem bldStr_sat (b : Nat) (p v : Value) (l : List UInt8) (w0 : World) (K : List Res) (hp : bldP b p) :
    SatL Tryd.prog 70 [.pointer (some ⟨b, 0, none⟩)] w0 (bldL b p v l ++ K) (fun u L => u = .string (bOf l) ∧ L = []) :=
  ⟨⟨_, _, Tryd.func70, by kernel_rfl, rfl⟩, fun w h => by
    refine (Tryd.Builder_String_any w0.heap.size b l w (bldL_is hp h) h.base).mono ?_
    rintro e w' ⟨rfl, hb⟩
    exact ⟨_, [], rfl, ⟨h.below.trans hb, Nat.le_trans h.base hb.size, fun r hr => absurd hr List.not_mem_nil, List.Pairwise.nil⟩, rfl, rfl⟩⟩
def jnS (xs : List ByteArray) : List UInt8 := Lib.join (xs.map (·.data.toList)) [32]
set_option maxRecDepth 100000 in
set_option maxHeartbeats 4000000 in
theorem join_sat (v : Value) (xs : List ByteArray) (w : World) (h : Strs w v xs) (hl : (jnS xs).length ≤ 140737488355328) : SatV Tryd.prog 146 [v, .string ⟨#[32]⟩] w (.string (bOf (jnS xs))) :=
  Sat.lib ⟨_, _, Tryd.func146, by kernel_rfl, rfl⟩ fun w1 hb => by
    have h := h.below hb
    obtain ⟨⟨hn, ⟨a, cap, rfl, hc⟩, hr⟩, _⟩ := h
    rcases hc with h0 | ⟨b, off, rfl, hc⟩
    · have hx : xs = [] := List.eq_nil_of_length_eq_zero h0
      subst hx
      refine (Tryd.strings_Join_none a cap ⟨#[32]⟩ w1).mono ?_
      rintro e w' ⟨rfl, rfl⟩
      exact ⟨_, [], rfl, Hp.refl _, rfl, rfl⟩
    · by_cases h0 : xs.length = 0
      · have hx : xs = [] := List.eq_nil_of_length_eq_zero h0
        subst hx
        refine (Tryd.strings_Join_none (some ⟨b, off, none⟩) cap ⟨#[32]⟩ w1).mono ?_
        rintro e w' ⟨rfl, rfl⟩
        exact ⟨_, [], rfl, Hp.refl _, rfl, rfl⟩
      have hbk : b < w1.heap.size := by
        have := hc 0 (by omega)
        unfold World.cell? at this
        cases h : w1.heap[b]? with
        | none => simp [h] at this
        | some o => exact (Array.getElem?_eq_some_iff.1 h).1
      refine (Tryd.strings_Join b off cap xs ⟨#[32]⟩ w1 (fun j x hj => ?_) hbk hn (hr _ _ _ rfl) hl).mono ?_
      · have hj2 := (List.getElem?_eq_some_iff.1 hj).1
        rw [hc j (by omega), List.getD_eq_getElem?_getD, hj]
        rfl
      · rintro e w' ⟨rfl, hb2⟩
        exact ⟨_, [], rfl, ⟨hb2, hb2.size, fun r hr => absurd hr List.not_mem_nil, List.Pairwise.nil⟩, rfl, rfl⟩
end Go.Proofs.YthnlnffmmioapaaDoor
namespace Go.Proofs.YthnlnffmmioapaaDoor
open Go.RowKit
instance : Inhabited Cnd := ⟨.mk 0 0 ByteArray.empty []⟩
mutual
def Cnd.cnt : Cnd → Nat
  | .mk _ _ _ ps => 1 + Cnd.cnts ps
def Cnd.cnts : List Cnd → Nat
  | [] => 0
  | x :: xs => x.cnt + Cnd.cnts xs
end
theorem cnts_sum (xs : List Cnd) : Cnd.cnts xs = (xs.map Cnd.cnt).sum := by
  induction xs with
  | nil => rfl
  | cons x xs ih => rw [Cnd.cnts, ih, List.map_cons, List.sum_cons]
theorem cnt_eq (x : Cnd) : x.cnt = 1 + (x.parts.map Cnd.cnt).sum := by cases x; rw [Cnd.cnt, cnts_sum]; rfl
theorem cnt_pos (x : Cnd) : 1 ≤ x.cnt := by rw [cnt_eq];omega
theorem sum_take (l : List Nat) (j : Nat) (h : j < l.length) : (l.take (j + 1)).sum = (l.take j).sum + l[j] := by
  rw [List.take_succ_eq_append_getElem h, List.sum_append, List.sum_cons, List.sum_nil, Nat.add_zero]
theorem sum_take_le (l : List Nat) (j : Nat) : (l.take j).sum ≤ l.sum := by
  conv => rhs; rw [← List.take_append_drop j l, List.sum_append]
  omega
theorem depth_eq (x : Cnd) : x.depth = 1 + Cnd.depth.depths x.parts := by cases x; rfl
theorem depth_pos (x : Cnd) : 1 ≤ x.depth := by rw [depth_eq];omega
theorem depths_le (xs : List Cnd) (d : Nat) : Cnd.depth.depths xs ≤ d ↔ ∀ x ∈ xs, x.depth ≤ d := by
  induction xs with
  | nil => simp [Cnd.depth.depths]
  | cons y ys ih => rw [Cnd.depth.depths, Nat.max_le, ih, List.forall_mem_cons]
theorem depth_in {x y : Cnd} (h : y ∈ x.parts) : y.depth < x.depth := by
  rw [depth_eq x]
  have := (depths_le x.parts (Cnd.depth.depths x.parts)).1 (Nat.le_refl _) y h
  omega
def mesB (x : Cnd) : Bool := decide (x.depth ≤ 16) && decide (x.cnt ≤ 65536)
def numK (k : Int) : Bool := decide (5 ≤ k) && decide (k ≤ 7)
def txtK (k : Int) : Bool := decide (8 ≤ k) && decide (k ≤ 9)
def lstK (k : Int) : Nat := if k = 13 then 1 else if 11 ≤ k then 2 else 0
def mstK (k : Int) : Int := if k = 13 then 1 else if 11 ≤ k then -1 else 0
def nodeB (k n : Int) (s : ByteArray) (m : Nat) : Bool :=
  decide (1 ≤ k ∧ k ≤ 13 ∧ 0 ≤ n ∧ n ≤ 1000 ∧ (numK k = false → n = 0) ∧ (txtK k = false → s.size = 0) ∧ (txtK k = true → patE (byts s) = 0) ∧ lstK k ≤ m ∧ (0 ≤ mstK k → (m : Int) ≤ mstK k))
mutual
def Cnd.own : Cnd → Bool
  | .mk k n s ps => nodeB k n s ps.length && Cnd.owns ps
def Cnd.owns : List Cnd → Bool
  | [] => true
  | x :: xs => x.own && Cnd.owns xs
end
theorem owns_all (xs : List Cnd) : Cnd.owns xs = xs.all Cnd.own := by
  induction xs with
  | nil => rfl
  | cons x xs ih => rw [Cnd.owns, ih, List.all_cons]
theorem own_eq (x : Cnd) : x.own = (nodeB x.kind x.num x.text x.parts.length && x.parts.all Cnd.own) := by cases x; rw [Cnd.own, owns_all]; rfl
def rgtE (x : Cnd) : Int := if mesB x = false then 4 else if x.own = false then 24 else 0
theorem rgtE_zero {x : Cnd} (h : rgtE x = 0) : mesB x = true ∧ x.own = true := by
  unfold rgtE at h
  cases h1 : mesB x with
  | false => rw [if_pos h1] at h; cases h
  | true =>
    cases h2 : x.own with
    | false => rw [if_neg (by rw [h1]; decide), if_pos h2] at h; cases h
    | true => exact ⟨rfl, rfl⟩
def foldC (c : UInt8) : UInt8 := if 65 ≤ c ∧ c ≤ 90 then c + 32 else c
def simL (l : List UInt8) : List UInt8 := (l.filter fun c => !decide (kindB c = 2)).map foldC
def levE (q : Nat → Nat → Bool) : Nat → Nat → Nat
  | 0, k => k
  | i + 1, 0 => i + 1
  | i + 1, k + 1 => min (min (levE q i k + if q i k = true then 0 else 1) (levE q i (k + 1) + 1)) (levE q (i + 1) k + 1)
theorem levE_le (q : Nat → Nat → Bool) : ∀ i k, levE q i k ≤ i + k
  | 0, k => by rw [levE];omega
  | i + 1, 0 => by rw [levE];omega
  | i + 1, k + 1 => by
    rw [levE]
    have := levE_le q i (k + 1)
    omega
def byEq (a b : List UInt8) (i k : Nat) : Bool := decide (a.getD i 0 = b.getD k 0)
def levP (a b : List UInt8) : Nat → Nat → Nat := levE (byEq a b)
def lev (a b : List UInt8) : Nat := levP a b a.length b.length
def nearB (b ws : List ByteArray) (n : Int) : Bool := decide (max (jnS b).length (jnS ws).length ≤ 256) && decide ((lev (jnS b) (jnS ws) : Int) ≤ n)
def mtchB (s : ByteArray) (ws : List ByteArray) : Bool := ws.any fun w => mtcB (byts s) (byts w)
def leafH (k n : Int) (s : ByteArray) (b ws : List ByteArray) (ns : Nat) : Bool :=
  if k = 1 then decide (0 < b.length) && decide (ws.length = 0)
  else if k = 2 then decide (b.length = 0) && decide (0 < ws.length)
  else if k = 3 then decide (0 < b.length) && (decide (0 < ws.length) && !decide (b = ws))
  else if k = 4 then !decide (b = ws) && decide (b.Perm ws)
  else if k = 5 then nearB b ws n
  else if k = 6 then decide ((ws.length : Int) ≤ n)
  else if k = 7 then decide (n ≤ (ns : Int))
  else if k = 8 then mtchB s b
  else if k = 9 then mtchB s ws
  else decide (b.map (fun w => simL (byts w)) = ws.map fun w => simL (byts w))
mutual
def Cnd.hd (b ws : List ByteArray) (ns : Nat) : Cnd → Bool
  | .mk k n s ps => if k = 11 then Cnd.hdA b ws ns ps else if k = 12 then Cnd.hdO b ws ns ps else if k = 13 then !Cnd.hdF b ws ns ps else leafH k n s b ws ns
def Cnd.hdA (b ws : List ByteArray) (ns : Nat) : List Cnd → Bool
  | [] => true
  | x :: xs => x.hd b ws ns && Cnd.hdA b ws ns xs
def Cnd.hdO (b ws : List ByteArray) (ns : Nat) : List Cnd → Bool
  | [] => false
  | x :: xs => x.hd b ws ns || Cnd.hdO b ws ns xs
def Cnd.hdF (b ws : List ByteArray) (ns : Nat) : List Cnd → Bool
  | [] => false
  | x :: _ => x.hd b ws ns
end
theorem hdA_all (b ws : List ByteArray) (ns : Nat) (xs : List Cnd) : Cnd.hdA b ws ns xs = xs.all (Cnd.hd b ws ns) := by
  induction xs with
  | nil => rfl
  | cons x xs ih => rw [Cnd.hdA, ih, List.all_cons]
theorem hdO_any (b ws : List ByteArray) (ns : Nat) (xs : List Cnd) : Cnd.hdO b ws ns xs = xs.any (Cnd.hd b ws ns) := by
  induction xs with
  | nil => rfl
  | cons x xs ih => rw [Cnd.hdO, ih, List.any_cons]
theorem hd_eq (b ws : List ByteArray) (ns : Nat) (x : Cnd) : x.hd b ws ns = if x.kind = 11 then x.parts.all (Cnd.hd b ws ns) else if x.kind = 12 then x.parts.any (Cnd.hd b ws ns) else if x.kind = 13 then !((x.parts.map (Cnd.hd b ws ns)).headD false) else leafH x.kind x.num x.text b ws ns := by
  cases x with
  | mk k n s ps =>
    rw [Cnd.hd, hdA_all, hdO_any]
    cases ps <;> rfl
def wdsB (l : List ByteArray) : Bool := decide (l.length ≤ 1024) && l.all fun w => decide (0 < w.size) && (decide (w.size ≤ 64) && !(byts w).contains 32)
def srcB (l : List Int) : Bool := l.all (fun s => decide (0 ≤ s) && decide (s < 32)) && (List.range l.length).all fun i => decide (i = 0) || decide (l.getD (i - 1) 0 < l.getD i 0)
structure Rdn where
  words : List ByteArray
  src : List Int
instance : Inhabited Rdn := ⟨⟨[], []⟩⟩
def rdgB (r : Rdn) : Bool := srcB r.src && wdsB r.words
structure Rul where
  name : ByteArray
  cnd : Cnd
instance : Inhabited Rul := ⟨⟨ByteArray.empty, default⟩⟩
def clsN (rs : List Rul) (b : List ByteArray) (r : Rdn) : ByteArray := match rs.find? fun x => x.cnd.hd b r.words r.src.length with
  | some x => x.name
  | none => ⟨#[111, 116, 104, 101, 114]⟩
def hldE (x : Cnd) (b : List ByteArray) (r : Rdn) : Int := if rgtE x = 0 ∧ wdsB b = true ∧ rdgB r = true then 0 else 1
def hldB (x : Cnd) (b : List ByteArray) (r : Rdn) : Bool := decide (hldE x b r = 0) && x.hd b r.words r.src.length
def grtW (l : List ByteArray) : Bool := (decide (8 < l.length) && decide (l.length ≤ 1024) || decide (1026 < l.length)) || l.any fun x => (decide (12 < x.size) && decide (x.size ≤ 64)) || decide (66 < x.size)
def grtR (l : List Rdn) : Bool := (decide (6 < l.length) && decide (l.length ≤ 4096) || decide (4098 < l.length)) || l.any fun r => grtW r.words || decide (36 < r.src.length)
mutual
def Cnd.lng : Cnd → Bool
  | .mk _ _ s ps => Cnd.lngs ps || decide (70 < s.size)
def Cnd.lngs : List Cnd → Bool
  | [] => false
  | x :: xs => x.lng || Cnd.lngs xs
end
theorem lngs_any (xs : List Cnd) : Cnd.lngs xs = xs.any Cnd.lng := by
  induction xs with
  | nil => rfl
  | cons x xs ih => rw [Cnd.lngs, ih, List.any_cons]
theorem lng_eq (x : Cnd) : x.lng = (x.parts.any Cnd.lng || decide (70 < x.text.size)) := by cases x; rw [Cnd.lng, lngs_any]; rfl
def grtX (x : Cnd) : Bool := !(decide (x.depth ≤ 20) && decide (x.cnt ≤ 40)) || x.lng
def grtL (rs : List Rul) : Bool := (rs.any fun r => decide (20 < r.name.size) || grtX r.cnd) || (decide (5 < rs.length) && decide (rs.length ≤ 64) || decide (66 < rs.length))
def finB (b : List ByteArray) (l : List Rdn) (xs : List Cnd) : Bool := !(decide (8 < b.length) || (grtW b || (decide (6 < l.length) || grtR l))) && xs.all fun x => !grtX x && decide (rgtE x = 0)
def wrdK (k : Int) : List UInt8 := ([[], [111, 109, 105, 115, 115, 105, 111, 110], [97, 100, 100, 105, 116, 105, 111, 110], [115, 117, 98, 115, 116, 105, 116, 117, 116, 105, 111, 110], [111, 114, 100, 101, 114], [100, 105, 115, 116, 97, 110, 99, 101], [119, 111, 114, 100, 115], [115, 117, 112, 112, 111, 114, 116], [98, 97, 115, 101], [109, 97, 116, 99, 104], [102, 111, 108, 100], [97, 110, 100], [111, 114], [110, 111, 116]] : List (List UInt8)).getD k.toNat []
def parW (b : Bool) (l : List UInt8) : List UInt8 := if b then 40 :: (l ++ [41]) else l
def parK (k pk : Int) : Bool := decide (pk = 12) || (decide (pk = 11) && !decide (k = 12))
mutual
def Cnd.prt : Cnd → List UInt8
  | .mk k n s ps => if 11 ≤ k then (if k = 13 then wrdK k ++ 32 :: Cnd.prtF k ps else Cnd.prtJ k ps) else wrdK k ++ ((if numK k then 32 :: Lib.itoa n else []) ++ if txtK k then 32 :: 34 :: (byts s ++ [34]) else [])
def Cnd.prtF (k : Int) : List Cnd → List UInt8
  | [] => []
  | x :: _ => parW (parK k x.kind) x.prt
def Cnd.prtJ (k : Int) : List Cnd → List UInt8
  | [] => []
  | x :: xs => parW (parK k x.kind) x.prt ++ Cnd.prtS k xs
def Cnd.prtS (k : Int) : List Cnd → List UInt8
  | [] => []
  | x :: xs => 32 :: (wrdK k ++ 32 :: (parW (parK k x.kind) x.prt ++ Cnd.prtS k xs))
end
def linL (rs : List Rul) : List UInt8 := (rs.map fun r => byts r.name ++ 58 :: 32 :: (r.cnd.prt ++ [10])).flatten
def rulsF : List ByteArray → List Rul → Int
  | _, [] => 0
  | seen, r :: rs => if isNm r.name = false ∨ r.name = ⟨#[98, 97, 115, 101]⟩ ∨ r.name = ⟨#[111, 116, 104, 101, 114]⟩ then 14 else if seen.any (fun y => decide (y = r.name)) = true then 7 else if rgtE r.cnd ≠ 0 then rgtE r.cnd else rulsF (seen ++ [r.name]) rs
def rulE (rs : List Rul) : Int := if 64 < rs.length then 4 else if rulsF [] rs ≠ 0 then rulsF [] rs else if 65536 < (linL rs).length then 4 else 0
end Go.Proofs.YthnlnffmmioapaaDoor
namespace Go.Proofs.YthnlnffmmioapaaDoor
theorem jnS_cons (x y : ByteArray) (r : List ByteArray) : jnS (x :: y :: r) = x.data.toList ++ 32 :: jnS (y :: r) := by
  unfold jnS
  rw [List.map_cons, List.map_cons, Lib.join_cons, Lib.join_cons]
  simp [Lib.joinTail]
theorem jnS_len (B : Nat) : ∀ xs : List ByteArray, (∀ x ∈ xs, x.size ≤ B) → (jnS xs).length ≤ xs.length * (B + 1)
  | [], _ => by simp [jnS, Lib.join_nil]
  | [x], h => by
    rw [show jnS [x] = x.data.toList from Lib.join_one _ _]
    have : x.data.toList.length = x.size := Array.length_toList
    have := h x List.mem_cons_self
    simp only [List.length_cons, List.length_nil]
    omega
  | x :: y :: r, h => by
    have ih := jnS_len B (y :: r) fun z hz => h z (List.mem_cons_of_mem _ hz)
    rw [jnS_cons, List.length_append, List.length_cons]
    have : x.data.toList.length = x.size := Array.length_toList
    have := h x List.mem_cons_self
    rw [List.length_cons (a := x), Nat.succ_mul]
    omega
theorem wdsB_iff (l : List ByteArray) : wdsB l = true ↔ l.length ≤ 1024 ∧ ∀ x ∈ l, 0 < x.size ∧ x.size ≤ 64 ∧ (32 : UInt8) ∉ x.data.toList := by
  unfold wdsB
  simp only [Bool.and_eq_true, decide_eq_true_eq, List.all_eq_true, Bool.not_eq_true', List.contains_eq_mem, decide_eq_false_iff_not, byts]
theorem map_eq_len {α β : Type} {f : α → β} {a b : List α} (h : a.map f = b.map f) : a.length = b.length := by
  have := congrArg List.length h
  simpa using this
end Go.Proofs.YthnlnffmmioapaaDoor
namespace Go.Proofs.YthnlnffmmioapaaDoor
def addP (k : Int) (j : Nat) (x : Cnd) : List UInt8 := (if j = 0 then [] else 32 :: (wrdK k ++ [32])) ++ parW (parK k x.kind) x.prt
theorem prtS_snoc (k : Int) (x : Cnd) : ∀ l : List Cnd, Cnd.prtS k (l ++ [x]) = Cnd.prtS k l ++ addP k 1 x
  | [] => by
    simp only [List.nil_append, Cnd.prtS]
    unfold addP
    simp
  | y :: l => by
    simp only [List.cons_append, Cnd.prtS, prtS_snoc k x l]
    simp
theorem prtJ_snoc (k : Int) (l : List Cnd) (x : Cnd) : Cnd.prtJ k (l ++ [x]) = Cnd.prtJ k l ++ addP k l.length x := by
  cases l with
  | nil =>
    simp only [List.nil_append, Cnd.prtJ, Cnd.prtS]
    unfold addP
    simp
  | cons y l =>
    simp only [List.cons_append, Cnd.prtJ, prtS_snoc]
    unfold addP
    simp
theorem prtJ_step (k : Int) (ps : List Cnd) (j : Nat) (h : j < ps.length) : Cnd.prtJ k (ps.take (j + 1)) = Cnd.prtJ k (ps.take j) ++ addP k j ps[j] := by
  rw [List.take_succ_eq_append_getElem h, prtJ_snoc, List.length_take, Nat.min_eq_left (Nat.le_of_lt h)]
theorem prtJ_le (k : Int) (ps : List Cnd) : ∀ j, (Cnd.prtJ k (ps.take j)).length ≤ (Cnd.prtJ k ps).length := by
  have hs : ∀ j, (Cnd.prtJ k (ps.take j)).length ≤ (Cnd.prtJ k (ps.take (j + 1))).length := fun j => by
    by_cases h : j < ps.length
    · rw [prtJ_step k ps j h, List.length_append];omega
    · rw [List.take_of_length_le (by omega), List.take_of_length_le (by omega)]
      exact Nat.le_refl _
  have hd : ∀ d j, (Cnd.prtJ k (ps.take j)).length ≤ (Cnd.prtJ k (ps.take (j + d))).length := fun d => by
    induction d with
    | zero => intro j; exact Nat.le_refl _
    | succ d ih => intro j; exact Nat.le_trans (ih j) (hs (j + d))
  intro j
  have := hd ps.length j
  rwa [List.take_of_length_le (l := ps) (i := j + ps.length) (by omega)] at this
theorem prt_eq (x : Cnd) : x.prt = if 11 ≤ x.kind then (if x.kind = 13 then wrdK x.kind ++ 32 :: Cnd.prtF x.kind x.parts else Cnd.prtJ x.kind x.parts) else wrdK x.kind ++ ((if numK x.kind then 32 :: Lib.itoa x.num else []) ++ if txtK x.kind then 32 :: 34 :: (byts x.text ++ [34]) else []) := by
  cases x
  rw [Cnd.prt]
  rfl
theorem itoa_small : ∀ n : Nat, n < 1001 → (Lib.itoa (n : Int)).length ≤ 4 := by decide +kernel
theorem wrdK_len (k : Int) : (wrdK k).length ≤ 12 := by
  unfold wrdK
  rcases Nat.lt_or_ge k.toNat 14 with h | h
  · generalize k.toNat = n at h
    revert n
    decide
  · rw [List.getD_eq_getElem?_getD, List.getElem?_eq_none (by simpa using h)]
    simp
theorem parW_len (b : Bool) (l : List UInt8) : (parW b l).length ≤ l.length + 2 := by
  unfold parW
  split <;> simp <;> omega
theorem prt_len : ∀ (d : Nat) (x : Cnd), x.depth ≤ d → x.own = true → x.prt.length + 10 ≤ 100 * x.cnt
  | 0, x, hd, _ => by have := depth_pos x;omega
  | d + 1, x, hd, ho => by
    have hon := ho
    rw [own_eq, Bool.and_eq_true, List.all_eq_true] at hon
    obtain ⟨hnd, hon⟩ := hon
    unfold nodeB at hnd
    obtain ⟨n1, n2, n3, n4, n5, n6, n7, n8, n9⟩ := of_decide_eq_true hnd
    have ih : ∀ y ∈ x.parts, y.prt.length + 10 ≤ 100 * y.cnt := fun y hy => prt_len d y (by have := depth_in hy;omega) (hon y hy)
    have hc := cnt_eq x
    have hw := wrdK_len x.kind
    rw [prt_eq]
    by_cases h11 : 11 ≤ x.kind
    · rw [if_pos h11]
      by_cases h13 : x.kind = 13
      · rw [if_pos h13, List.length_append, List.length_cons]
        cases hp : x.parts with
        | nil =>
          rw [Cnd.prtF, List.length_nil]
          omega
        | cons y ys =>
          rw [Cnd.prtF]
          have h1 := ih y (by rw [hp]; exact List.mem_cons_self)
          have h2 := parW_len (parK x.kind y.kind) y.prt
          rw [hp, List.map_cons, List.sum_cons] at hc
          omega
      · rw [if_neg h13]
        have key : ∀ j, (Cnd.prtJ x.kind (x.parts.take j)).length ≤ 100 * ((x.parts.map Cnd.cnt).take j).sum := fun j => by
          induction j with
          | zero => simp [Cnd.prtJ]
          | succ j ihj =>
            by_cases h : j < x.parts.length
            · rw [prtJ_step _ _ _ h, List.length_append, sum_take _ _ (by rw [List.length_map]; exact h), List.getElem_map]
              have h1 := ih _ (List.getElem_mem h)
              have h2 := parW_len (parK x.kind x.parts[j].kind) x.parts[j].prt
              have h3 : (addP x.kind j x.parts[j]).length ≤ x.parts[j].prt.length + 2 + 14 := by
                unfold addP
                rw [List.length_append]
                split
                · simp;omega
                · rw [List.length_cons, List.length_append]; simp;omega
              have hwk : (wrdK x.kind).length ≤ 3 := by
                have : x.kind = 11 ∨ x.kind = 12 := by omega
                rcases this with e | e <;> rw [e] <;> decide
              have h4 : (addP x.kind j x.parts[j]).length ≤ x.parts[j].prt.length + 2 + 5 := by
                unfold addP
                rw [List.length_append]
                split
                · simp;omega
                · rw [List.length_cons, List.length_append]; simp;omega
              omega
            · rw [List.take_of_length_le (by omega)] at ihj ⊢
              rw [List.take_of_length_le (by rw [List.length_map];omega)] at ihj ⊢
              exact ihj
        have := key x.parts.length
        rw [List.take_length, List.take_of_length_le (by simp)] at this
        omega
    · rw [if_neg h11, List.length_append, List.length_append]
      obtain ⟨m, hm⟩ := Int.eq_ofNat_of_zero_le n3
      have hi := itoa_small m (by omega)
      rw [← hm] at hi
      have h1 : ((if numK x.kind then 32 :: Lib.itoa x.num else []) : List UInt8).length ≤ 5 := by
        split
        · rw [List.length_cons];omega
        · simp
      have h2 : ((if txtK x.kind then 32 :: 34 :: (byts x.text ++ [34]) else []) : List UInt8).length ≤ 67 := by
        cases ht : txtK x.kind
        · simp
        · have := (patE_len (n7 ht)).1
          have hb := byts_len x.text
          simp
          omega
      omega
end Go.Proofs.YthnlnffmmioapaaDoor
