/-
  Part 10 of the proof: Gf07, Pn07, Gg07. No statement of the seat is proved here.
-/
import Derived.Test.YtbooccpfdekaiaaDoorMHSh079
namespace Go.Proofs.YtbooccpfdekaiaaDoor
open Go.RowKit
theorem prts_len (p : List UInt8) : (prts p).length ≤ p.length := by
  have : ∀ (f : Nat) (p : List UInt8), (prtsF f p).length ≤ f := by
    intro f
    induction f with
    | zero => intro p; exact Nat.le_refl _
    | succ f ih =>
      intro p
      unfold prtsF
      split
      · exact Nat.zero_le _
      · rw [List.length_cons]
        exact Nat.succ_le_succ (ih _)
  exact this _ _
theorem pat_len (p : List UInt8) : (pat p).length ≤ p.length := by unfold pat; rw [List.length_map]; exact prts_len p
theorem elsC_at : ∀ (xs : List (List UInt8)) (lo i : Nat) (x : List UInt8), xs[i]? = some x → ∀ c, c < 259 → (elsC lo xs)[i * 259 + c]? = (xC (elAny x) (elHas x) ((lo + (xs.take i).flatten.length : Nat) : Int) ((lo + (xs.take i).flatten.length + x.length : Nat) : Int))[c]?
  | [], _, i, _, h, _, _ => by simp at h
  | y :: xs, lo, 0, x, h, c, hc => by
    rw [List.getElem?_cons_zero] at h
    cases h
    rw [elsC_cons, Nat.zero_mul, Nat.zero_add, List.getElem?_append_left (by rw [xC_len]; exact hc)]
    rfl
  | y :: xs, lo, i + 1, x, h, c, hc => by
    rw [List.getElem?_cons_succ] at h
    rw [elsC_cons, Nat.succ_mul, List.getElem?_append_right (by rw [xC_len];omega), xC_len, show i * 259 + 259 + c - 259 = i * 259 + c by omega, elsC_at xs _ i x h c hc, List.take_succ_cons, List.flatten_cons, List.length_append, Nat.add_assoc lo]
def elsF (xs : List (List UInt8)) (j : Nat) : Value := (elsC 0 xs).getD j undef
theorem Hp.esR {B : Nat} {w0 w : World} {L : List Res} (h : Hp B w0 w L) (i : Nat) {e : TypeId} {v : Value} {xs : List (List UInt8)} (hi : L[i]? = some (.row e 259 v xs.length (elsC 0 xs))) (hn : xs.length ≤ 64) : EsR w v (xs.map elCor) := by
  refine ⟨elsF xs, ?_, ?_⟩
  · rw [List.length_map]
    refine h.sl i hi (by omega) fun j hj => ?_
    unfold elsF
    have : j < (elsC 0 xs).length := by rw [elsC_len]; exact hj
    rw [List.getD_eq_getElem?_getD, List.getElem?_eq_getElem this]
    rfl
  · intro k x hx
    rw [List.getElem?_map, Option.map_eq_some_iff] at hx
    obtain ⟨y, hy, rfl⟩ := hx
    constructor
    · unfold elsF
      rw [List.getD_eq_getElem?_getD, elsC_at xs 0 k y hy 0 (by decide), xC_at0]
      unfold elCor
      cases elAny y <;> rfl
    · intro g hg c hc
      unfold elsF
      rw [List.getD_eq_getElem?_getD, elsC_at xs 0 k y hy (1 + c) (by omega), xC_atc _ _ _ _ c hc]
      unfold elCor at hg
      split at hg
      · cases hg
      · cases hg
        rfl
def elsRes (v : Value) (p : List UInt8) : Res := .row 66 259 v (prts p).length (elsC 0 (prts p))
theorem elements_bad (p : List UInt8) (w : World) (hp : p.length ≤ 140737488355328) (h : patE p ≠ 0) : SatV Tryd.prog 22 [.string (bOf p)] w (.tuple #[.slice none 0 0, .int .i64 (patE p)]) :=
  (elements_sat p w hp).mono (by
    rintro u L (⟨_, rfl, rfl⟩ | ⟨h1, _⟩)
    · exact ⟨rfl, rfl⟩
    · exact absurd h1 h)
theorem elements_ok (p : List UInt8) (w : World) (hp : p.length ≤ 140737488355328) (h : patE p = 0) : Sat Tryd.prog 22 [.string (bOf p)] w (fun u L => ∃ v, u = .tuple #[v, .int .i64 0] ∧ L = [elsRes v p]) :=
  (elements_sat p w hp).mono (by
    rintro u L (⟨h1, _⟩ | ⟨_, v, rfl, rfl⟩)
    · exact absurd h h1
    · exact ⟨v, rfl, rfl⟩)
theorem patE_len {p : List UInt8} (h : patE p = 0) : p.length ≤ 64 ∧ errP p = 0 := by
  unfold patE at h
  split at h
  · cases h
  · exact ⟨by omega, h⟩
theorem Hp.elsR {B : Nat} {w0 w : World} {L : List Res} (h : Hp B w0 w L) (i : Nat) {v : Value} {p : List UInt8} (hi : L[i]? = some (elsRes v p)) (hp : patE p = 0) : EsR w v (pat p) :=
  h.esR i hi (Nat.le_trans (prts_len p) (patE_len hp).1)
theorem patE_bd (p : List UInt8) : -9223372036854775808 ≤ patE p ∧ patE p ≤ 9223372036854775807 := by
  have hel : ∀ q, 0 ≤ elErr q ∧ elErr q ≤ 11 := by
    intro q
    unfold elErr
    split
    · decide
    · repeat' split
      all_goals decide
  have : ∀ (f : Nat) (q : List UInt8), 0 ≤ errF f q ∧ errF f q ≤ 11 := by
    intro f
    induction f with
    | zero => intro q; exact (⟨Int.le_refl 0, by decide⟩ : (0 : Int) ≤ 0 ∧ (0 : Int) ≤ 11)
    | succ f ih =>
      intro q
      unfold errF
      split
      · decide
      · split
        · exact hel q
        · exact ih _
  have := this p.length p
  unfold patE errP
  split
  · decide
  · omega
set_option maxRecDepth 100000 in
set_option maxHeartbeats 4000000 in
theorem gCheck_sat (p : List UInt8) (w : World) (hp : p.length ≤ 140737488355328) : SatV Tryd.prog 11 [.string (bOf p)] w (.int .i64 (patE p)) := by
  by_cases h : patE p = 0
  · rw [h]
    refine SatL.of 11 [2] Tryd.func11 (by kernel_rfl) (by kernel_rfl) rfl rfl rfl rfl ?_
    repeat' (first|(apply OK_seq)|(apply thenQ_n)|(apply OK_region)|(apply OKx_gc 22;exact rfl; refine OKx_call (f := 22) rfl rfl (fun w1 hp1 => elements_ok p w1 hp h) ?_; rintro _ _ ⟨v, rfl, rfl⟩)|(apply OKx_nilK)|(apply OK_block)|(apply blockQ_n)|(apply blockQ_s)|(apply thenQ_e)|(apply blockQ_e;exact rfl)|(apply thenQ_r)|(apply blockQ_r)|(apply OK_condT;exact rfl)|(apply OK_condF;exact rfl)|(apply OK_skip)|(apply OK_exit)|(apply OK_ret)|(apply OKx_move;(conv=>lhs;whnf)<;>exact rfl)|(apply OKx_assign;(conv=>lhs;whnf)<;>exact rfl)|(apply OKx_extract;exact rfl;(conv=>lhs;whnf)<;>exact rfl))
    refine bodyQ_r1 (by ((conv=>lhs;whnf)<;>exact rfl)) ?_
    exact ⟨_, Ent.nil, rfl, rfl⟩
  · refine SatL.of 11 [2] Tryd.func11 (by kernel_rfl) (by kernel_rfl) rfl rfl rfl rfl ?_
    repeat' (first|(apply OK_seq)|(apply thenQ_n)|(apply OK_region)|(apply OKx_gc 22;exact rfl; refine OKx_callV (f := 22) rfl rfl rfl (fun w1 hp1 => elements_bad p w1 hp h) ?_)|(apply OKx_nilK)|(apply OK_block)|(apply blockQ_n)|(apply blockQ_s)|(apply thenQ_e)|(apply blockQ_e;exact rfl)|(apply thenQ_r)|(apply blockQ_r)|(apply OK_condT;exact rfl)|(apply OK_condF;exact rfl)|(apply OK_skip)|(apply OK_exit)|(apply OK_ret)|(apply OKx_move;(conv=>lhs;whnf)<;>exact rfl)|(apply OKx_assign;(conv=>lhs;whnf)<;>exact rfl)|(apply OKx_extract;exact rfl;(conv=>lhs;whnf)<;>exact rfl))
    refine bodyQ_r1 (by ((conv=>lhs;whnf)<;>exact rfl)) ?_
    exact ⟨_, Ent.nil, rfl, rfl⟩
def mtcE (p s : List UInt8) : Int := if patE p ≠ 0 then 1 else chkS s
def mtcB (p s : List UInt8) : Bool := if mtcE p s ≠ 0 then false else mtB (pat p) s
set_option maxRecDepth 100000 in
set_option maxHeartbeats 4000000 in
theorem Match_sat (p s : List UInt8) (w : World) (hp : p.length ≤ 140737488355328) (hs : s.length ≤ 140737488355328) : SatV Tryd.prog 9 [.string (bOf p), .string (bOf s)] w (.tuple #[.bool (mtcB p s), .int .i64 (mtcE p s)]) := by
  by_cases h : patE p = 0
  · have e1 : mtcE p s = chkS s := if_neg (fun hh => hh h)
    have hl := (patE_len h).1
    have hpl := pat_len p
    by_cases h2 : chkS s = 0
    · have e2 : mtcB p s = mtB (pat p) s := if_neg (fun hh => hh (by rw [e1, h2]))
      rw [e1, e2, h2]
      refine SatL.of 24 [4, 5] Tryd.func9 (by kernel_rfl) (by kernel_rfl) rfl rfl rfl rfl ?_
      repeat' (first|(apply OK_seq)|(apply thenQ_n)|(apply OK_region)|(apply OKx_gc 22;exact rfl; refine OKx_call (f := 22) rfl rfl (fun w1 hp1 => elements_ok p w1 hp h) ?_; rintro _ _ ⟨v, rfl, rfl⟩)|(apply OKx_gc 27;exact rfl; refine OKx_callV (f := 27) (v := .int .i64 0) rfl rfl rfl (fun w1 hp1 => by have := chkS_sat s w1 hs; rwa [h2] at this) ?_)|(apply OKx_gc 28;exact rfl; refine OKx_callV (f := 28) rfl rfl rfl (fun w1 hp1 => matches_sat v (pat p) s w1 (hp1.elsR 0 rfl h) (by omega) hs) ?_)|(apply OKx_nilK)|(apply OK_block)|(apply blockQ_n)|(apply blockQ_s)|(apply thenQ_e)|(apply blockQ_e;exact rfl)|(apply thenQ_r)|(apply blockQ_r)|(apply OK_condT;exact rfl)|(apply OK_condF;exact rfl)|(apply OK_skip)|(apply OK_exit)|(apply OK_ret)|(apply OKx_move;(conv=>lhs;whnf)<;>exact rfl)|(apply OKx_assign;(conv=>lhs;whnf)<;>exact rfl)|(apply OKx_neq;exact rfl;exact rfl;all_goals (intro _; try (exfalso;omega)))|(apply OKx_extract;exact rfl;(conv=>lhs;whnf)<;>exact rfl))
      refine bodyQ_r2 (by ((conv=>lhs;whnf)<;>exact rfl)) (by ((conv=>lhs;whnf)<;>exact rfl)) ?_
      exact ⟨_, Ent.nil, rfl, rfl⟩
    · have e2 : mtcB p s = false := if_pos (by rw [e1]; exact h2)
      rw [e1, e2]
      refine SatL.of 24 [4, 5] Tryd.func9 (by kernel_rfl) (by kernel_rfl) rfl rfl rfl rfl ?_
      repeat' (first|(apply OK_seq)|(apply thenQ_n)|(apply OK_region)|(apply OKx_gc 22;exact rfl; refine OKx_call (f := 22) rfl rfl (fun w1 hp1 => elements_ok p w1 hp h) ?_; rintro _ _ ⟨v, rfl, rfl⟩)|(apply OKx_gc 27;exact rfl; refine OKx_callV (f := 27) rfl rfl rfl (fun w1 hp1 => chkS_sat s w1 hs) ?_)|(apply OKx_nilK)|(apply OK_block)|(apply blockQ_n)|(apply blockQ_s)|(apply thenQ_e)|(apply blockQ_e;exact rfl)|(apply thenQ_r)|(apply blockQ_r)|(apply OK_condT;exact rfl)|(apply OK_condF;exact rfl)|(apply OK_skip)|(apply OK_exit)|(apply OK_ret)|(apply OKx_move;(conv=>lhs;whnf)<;>exact rfl)|(apply OKx_assign;(conv=>lhs;whnf)<;>exact rfl)|(apply OKx_neq;exact rfl;exact rfl;all_goals (intro _; try (exfalso;omega)))|(apply OKx_extract;exact rfl;(conv=>lhs;whnf)<;>exact rfl))
      refine bodyQ_r2 (by ((conv=>lhs;whnf)<;>exact rfl)) (by ((conv=>lhs;whnf)<;>exact rfl)) ?_
      exact ⟨_, Ent.nil, rfl, rfl⟩
  · have e1 : mtcE p s = 1 := if_pos h
    have e2 : mtcB p s = false := if_pos (by rw [e1]; decide)
    rw [e1, e2]
    refine SatL.of 24 [4, 5] Tryd.func9 (by kernel_rfl) (by kernel_rfl) rfl rfl rfl rfl ?_
    repeat' (first|(apply OK_seq)|(apply thenQ_n)|(apply OK_region)|(apply OKx_gc 22;exact rfl; refine OKx_callV (f := 22) rfl rfl rfl (fun w1 hp1 => elements_bad p w1 hp h) ?_)|(apply OKx_nilK)|(apply OK_block)|(apply blockQ_n)|(apply blockQ_s)|(apply thenQ_e)|(apply blockQ_e;exact rfl)|(apply thenQ_r)|(apply blockQ_r)|(apply OK_condT;exact rfl)|(apply OK_condF;exact rfl)|(apply OK_skip)|(apply OK_exit)|(apply OK_ret)|(apply OKx_move;(conv=>lhs;whnf)<;>exact rfl)|(apply OKx_assign;(conv=>lhs;whnf)<;>exact rfl)|(apply OKx_neq;exact rfl;exact rfl;all_goals (intro _; try (exfalso;omega)))|(apply OKx_extract;exact rfl;(conv=>lhs;whnf)<;>exact rfl))
    refine bodyQ_r2 (by ((conv=>lhs;whnf)<;>exact rfl)) (by ((conv=>lhs;whnf)<;>exact rfl)) ?_
    exact ⟨_, Ent.nil, rfl, rfl⟩
end Go.Proofs.YtbooccpfdekaiaaDoor
namespace Go.Proofs.YtbooccpfdekaiaaDoor
open Go.RowKit
def elNums (x : List UInt8) : List Nat := (List.range 256).filter (fun k => elHas x (UInt8.ofNat k))
def elOne (x : List UInt8) : Option UInt8 := if elAny x = true then none else match elNums x with
  | [k] => some (UInt8.ofNat k)
  | _ => none
def litL (l : List (List UInt8)) : Option (List UInt8) := match l with
  | [] => some []
  | x :: l => match elOne x, litL l with
    | some c, some v => some (c :: v)
    | _, _ => none
end Go.Proofs.YtbooccpfdekaiaaDoor
namespace Go.Proofs.YtbooccpfdekaiaaDoor
open Go.RowKit
section
variable {P : Program} {n : Nat} {w0 : World} {K : Fm → List Res → Prop} {F : Fm} {L : List Res} {m : Md} {ops : Array Oper} {rest : List Oper} {d : Option Nat} {ty : TypeId} {pos : String} {aft : Array Edge}
theorem OKx_ldBAk {t sz : Nat} {zs : List Value} [T : TAgg P t sz zs] {x : Operand} {g k : Nat} (i : Nat) {e : TypeId} {cs vs : List Value} (hx : rv n F x = .pointer (some ⟨g, k, none⟩)) (hi : L[i]? = some (.box e g cs)) (hl : vs.length = sz) (hv : ∀ j, j < sz → cs[k + j]? = vs[j]?)
    (kk : OKx P n w0 m ops K rest (updo F d (.agg vs.toArray)) L) : OKx P n w0 m ops K (⟨d, .load t x, ty, pos, aft, none⟩ :: rest) F L :=
  OKx_still (fun w hp _ _ _ _ => run_loadA T hx hl (fun j hj => by
    rw [(hp.boxAt i hi).1 (k + j)]
    exact hv j (by omega)) _ _ _ _) kk
end
def elX (p : List UInt8) (k : Nat) : List Value := xC (elAny ((prts p).getD k [])) (elHas ((prts p).getD k [])) ((((prts p).take k).flatten.length : Nat) : Int) ((((prts p).take k).flatten.length + ((prts p).getD k []).length : Nat) : Int)
theorem elX_at {p : List UInt8} {k : Nat} (hk : k < (prts p).length) : ∀ c, c < 259 → (elsC 0 (prts p))[k * 259 + c]? = (elX p k)[c]? := by
  intro c hc
  have hx : (prts p)[k]? = some ((prts p).getD k []) := by rw [getD_lt _ _ _ hk]; exact List.getElem?_eq_getElem hk
  rw [elsC_at _ 0 k _ hx c hc, Nat.zero_add]
  rfl
theorem elX_len (p : List UInt8) (k : Nat) : (elX p k).length = 259 := xC_len _ _ _ _
theorem elX_one (p : List UInt8) (k : Nat) : ∀ u ∈ elX p k, u.oneCell' = true := xC_one _ _ _ _
theorem elX_at0 (p : List UInt8) (k : Nat) : (elX p k)[0]? = some (.bool (elAny ((prts p).getD k []))) := xC_at0 _ _ _ _
theorem elX_c (p : List UInt8) (k : Nat) (c : Nat) (hc : c < 256) : (elX p k)[1 + c]? = some (.bool (elHas ((prts p).getD k []) (UInt8.ofNat c))) := xC_atc _ _ _ _ c hc
attribute [irreducible] elX
theorem pat_at {p : List UInt8} {k : Nat} (hk : k < (prts p).length) : (pat p).take (k + 1) = (pat p).take k ++ [elCor ((prts p).getD k [])] := by
  have hx : (pat p)[k]? = some (elCor ((prts p).getD k [])) := by
    unfold pat
    rw [List.getElem?_map, List.getElem?_eq_getElem hk, getD_lt _ _ _ hk]
    rfl
  rw [List.take_add_one, hx]
  rfl
theorem OK_world7 {P : Program} {n : Nat} {w0 : World} {Q : Exit → Fm → List Res → Prop} {F : Fm} {L : List Res} {c : Code} (h : ∀ w, Hp w0.heap.size w0 w L → OK P n w0 Q c F L) : OK P n w0 Q c F L := OK.mk' fun w a hf hp => (h w hp).use w a hf hp
def bndG (l : List Elc) : Int := if l.any Option.isNone then -1 else 0
theorem bndG_snoc (l : List Elc) (x : Elc) : bndG (l ++ [x]) = if x.isNone then -1 else bndG l := by
  unfold bndG
  rw [List.any_append]
  cases x with
  | none => simp
  | some f => rw [show ([some f] : List Elc).any Option.isNone = false from rfl, Bool.or_false]; rfl
theorem cntS_snoc (l : List Elc) (x : Elc) : cntS (l ++ [x]) = cntS l + if x.isNone then 0 else 1 := by
  unfold cntS
  rw [List.countP_append]
  cases x <;> simp
def bndR (p : List UInt8) : Int × Int × Int := if patE p ≠ 0 then (0, 0, 1) else ((cntS (pat p) : Int), if (pat p).any Option.isNone then -1 else (cntS (pat p) : Int), 0)
set_option maxRecDepth 100000 in
set_option maxHeartbeats 4000000 in
theorem Bounds_sat (p : List UInt8) (w : World) (hp : p.length ≤ 140737488355328) : SatV Tryd.prog 21 [.string (bOf p)] w (.tuple #[.int .i64 (bndR p).1, .int .i64 (bndR p).2.1, .int .i64 (bndR p).2.2]) := by
  by_cases h : patE p = 0
  rotate_left
  · have e1 : bndR p = (0, 0, 1) := if_pos h
    rw [e1]
    refine SatL.of 34 [2, 3, 4] Tryd.func21 (by kernel_rfl) (by kernel_rfl) rfl rfl rfl rfl ?_
    repeat' (first|(apply OK_seq)|(apply thenQ_n)|(apply OK_region)|(apply OKx_gc 22;exact rfl; refine OKx_callV (f := 22) rfl rfl rfl (fun w1 hp1 => elements_bad p w1 hp h) ?_)|(apply OKx_nilK)|(apply OK_block)|(apply blockQ_n)|(apply blockQ_s)|(apply thenQ_e)|(apply blockQ_e;exact rfl)|(apply thenQ_r)|(apply blockQ_r)|(apply OK_condT;exact rfl)|(apply OK_condF;exact rfl)|(apply OK_skip)|(apply OK_exit)|(apply OK_ret)|(apply OKx_move;(conv=>lhs;whnf)<;>exact rfl)|(apply OKx_assign;(conv=>lhs;whnf)<;>exact rfl)|(apply OKx_ldB;exact rfl;(first | exact at0|exact at1|exact at2|exact at3|exact at4|exact at5|exact at6|exact at7);exact rfl)|(apply OKx_ldR;(conv=>lhs;whnf)<;>exact rfl;(with_reducible assumption))|(apply OKx_len;exact rfl)|(apply OKx_lenR;(conv=>lhs;whnf)<;>exact rfl;(with_reducible assumption))|(apply OKx_lenR2;(conv=>lhs;whnf)<;>exact rfl;(with_reducible assumption))|(apply OKx_lenO;(conv=>lhs;whnf)<;>exact rfl;(first | exact at0|exact at1|exact at2|exact at3|exact at4|exact at5|exact at6|exact at7))|(apply OKx_lss;exact rfl;exact rfl;all_goals (intro _; try (exfalso;omega)))|(apply OKx_eql;exact rfl;exact rfl;all_goals (intro _; try (exfalso;omega)))|(apply OKx_neq;exact rfl;exact rfl;all_goals (intro _; try (exfalso;omega)))|(apply OKx_idxR2;(conv=>lhs;whnf)<;>exact rfl;(with_reducible assumption);exact rfl;omega;intro _ _)|(apply OKx_fldO;exact rfl;exact rfl)|(apply OKx_fldR;(conv=>lhs;whnf)<;>exact rfl;(with_reducible assumption); decide;intro _ _)|(apply OKx_inc;exact rfl;exact rfl;omega)|(apply OKx_addN;exact rfl;exact rfl;omega)|(apply OKx_add;exact rfl;exact rfl;omega;omega)|(apply OKx_extract;exact rfl;(conv=>lhs;whnf)<;>exact rfl)|(apply OKx_allocA;intro _)|(apply OKx_ldBA;exact rfl;(first | exact at0|exact at1|exact at2|exact at3|exact at4|exact at5|exact at6|exact at7);exact rfl)|(apply OKx_ldRA;(conv=>lhs;whnf)<;>exact rfl;(with_reducible assumption))|(apply OKx_ldBo;exact rfl;(first | exact at0|exact at1|exact at2|exact at3|exact at4|exact at5|exact at6|exact at7);omega)|(apply OKx_stBA; kernel_rfl;exact rfl;exact rfl;exact rfl;(first | exact at0|exact at1|exact at2|exact at3|exact at4|exact at5|exact at6|exact at7);exact rfl;exact rfl;exact rfl))
    refine bodyQ_r3 (by ((conv=>lhs;whnf)<;>exact rfl)) (by ((conv=>lhs;whnf)<;>exact rfl)) (by ((conv=>lhs;whnf)<;>exact rfl)) ?_
    exact ⟨_, Ent.nil, rfl, rfl⟩
  have e1 : bndR p = ((cntS (pat p) : Int), if (pat p).any Option.isNone then -1 else (cntS (pat p) : Int), 0) := if_neg (fun hh => hh h)
  rw [e1]
  have hl := (patE_len h).1
  have hpl := prts_len p
  have hpn : (pat p).length = (prts p).length := by unfold pat; rw [List.length_map]
  refine SatL.of 34 [2, 3, 4] Tryd.func21 (by kernel_rfl) (by kernel_rfl) rfl rfl rfl rfl ?_
  repeat' (first|(apply OK_seq)|(apply thenQ_n)|(apply OK_region)|(apply OKx_gc 22;exact rfl; refine OKx_call (f := 22) rfl rfl (fun w1 hp1 => elements_ok p w1 hp h) ?_; rintro _ _ ⟨v, rfl, rfl⟩)|(apply OKx_gb; refine OKx_lenO 0 rfl rfl ?_)|(apply OKx_nilK)|(apply OK_block)|(apply blockQ_n)|(apply blockQ_s)|(apply thenQ_e)|(apply blockQ_e;exact rfl)|(apply thenQ_r)|(apply blockQ_r)|(apply OK_condT;exact rfl)|(apply OK_condF;exact rfl)|(apply OK_skip)|(apply OK_exit)|(apply OK_ret)|(apply OKx_move;(conv=>lhs;whnf)<;>exact rfl)|(apply OKx_assign;(conv=>lhs;whnf)<;>exact rfl)|(apply OKx_ldB;exact rfl;(first | exact at0|exact at1|exact at2|exact at3|exact at4|exact at5|exact at6|exact at7);exact rfl)|(apply OKx_ldR;(conv=>lhs;whnf)<;>exact rfl;(with_reducible assumption))|(apply OKx_len;exact rfl)|(apply OKx_lenR;(conv=>lhs;whnf)<;>exact rfl;(with_reducible assumption))|(apply OKx_lenR2;(conv=>lhs;whnf)<;>exact rfl;(with_reducible assumption))|(apply OKx_lenO;(conv=>lhs;whnf)<;>exact rfl;(first | exact at0|exact at1|exact at2|exact at3|exact at4|exact at5|exact at6|exact at7))|(apply OKx_lss;exact rfl;exact rfl;all_goals (intro _; try (exfalso;omega)))|(apply OKx_eql;exact rfl;exact rfl;all_goals (intro _; try (exfalso;omega)))|(apply OKx_neq;exact rfl;exact rfl;all_goals (intro _; try (exfalso;omega)))|(apply OKx_idxR2;(conv=>lhs;whnf)<;>exact rfl;(with_reducible assumption);exact rfl;omega;intro _ _)|(apply OKx_fldO;exact rfl;exact rfl)|(apply OKx_fldR;(conv=>lhs;whnf)<;>exact rfl;(with_reducible assumption); decide;intro _ _)|(apply OKx_inc;exact rfl;exact rfl;omega)|(apply OKx_addN;exact rfl;exact rfl;omega)|(apply OKx_add;exact rfl;exact rfl;omega;omega)|(apply OKx_extract;exact rfl;(conv=>lhs;whnf)<;>exact rfl)|(apply OKx_allocA;intro _)|(apply OKx_ldBA;exact rfl;(first | exact at0|exact at1|exact at2|exact at3|exact at4|exact at5|exact at6|exact at7);exact rfl)|(apply OKx_ldRA;(conv=>lhs;whnf)<;>exact rfl;(with_reducible assumption))|(apply OKx_ldBo;exact rfl;(first | exact at0|exact at1|exact at2|exact at3|exact at4|exact at5|exact at6|exact at7);omega)|(apply OKx_stBA; kernel_rfl;exact rfl;exact rfl;exact rfl;(first | exact at0|exact at1|exact at2|exact at3|exact at4|exact at5|exact at6|exact at7);exact rfl;exact rfl;exact rfl))
  refine OK_loop3 7 8 20 [7, 8, 10, 20, 21, 22, 23, 24, 25, 26, 27, 28] (fun mm u1 u2 u3 L => ∃ k : Nat, k + mm = (prts p).length ∧ u1 = .int .i64 ((cntS ((pat p).take k) : Nat) : Int) ∧ u2 = .int .i64 (bndG ((pat p).take k)) ∧ u3 = .int .i64 (k : Int) ∧ L = [elsRes v p]) (prts p).length _ (Ent.refl _ _) ⟨0, by omega, rfl, rfl, rfl, rfl⟩ ?_
  rintro mm u1 u2 u3 L G ⟨k, hkm, rfl, rfl, rfl, rfl⟩
  by_cases hk : k < (prts p).length
  · refine OK_world7 fun w1 hw1 => ?_
    obtain ⟨g, cap, rfl⟩ := hw1.rowForm 0 rfl (by omega)
    have hcell := elX_at hk
    have hX0 := elX_at0 p k
    have hst := pat_at hk
    have hs1 := cntS_snoc ((pat p).take k) (elCor ((prts p).getD k []))
    have hs2 := bndG_snoc ((pat p).take k) (elCor ((prts p).getD k []))
    have hcb : cntS ((pat p).take k) ≤ k := by
      unfold cntS
      exact Nat.le_trans List.countP_le_length (by rw [List.length_take];omega)
    rw [← hst] at hs1 hs2
    cases ha : elAny ((prts p).getD k []) with
    | true =>
      have hcn : (elCor ((prts p).getD k [])).isNone = true := by unfold elCor; rw [if_pos ha]; rfl
      rw [hcn, if_pos rfl] at hs1 hs2
      rw [ha] at hX0
      repeat' (first|(apply OK_seq)|(apply thenQ_n)|(apply OK_region)|(apply OKx_gi; refine OKx_idxOn (i := k) rfl rfl hk ?_)|(apply OKx_gl; refine OKx_ldWA (k := k * 259) (vs := elX p k) 0 rfl rfl (by omega) (elX_len _ _) hcell ?_)|(apply OKx_gs; refine OKx_stBA (by kernel_rfl) (cs' := (elX p k).toArray) 0 rfl rfl (List.all_eq_true.2 (elX_one _ _)) rfl (by rw [List.toList_toArray, elX_len] <;> kernel_rfl) (by rw [List.toList_toArray, elX_len] <;> rfl) rfl ?_)|(apply OKx_gl; refine OKx_ldB (k := 0) (e := 66) (cs := elX p k) 0 rfl rfl hX0 ?_)|(apply OKx_nilK)|(apply OK_block)|(apply blockQ_n)|(apply blockQ_s)|(apply thenQ_e)|(apply blockQ_e;exact rfl)|(apply thenQ_r)|(apply blockQ_r)|(apply OK_condT;exact rfl)|(apply OK_condF;exact rfl)|(apply OK_skip)|(apply OK_exit)|(apply OK_ret)|(apply OKx_move;(conv=>lhs;whnf)<;>exact rfl)|(apply OKx_assign;(conv=>lhs;whnf)<;>exact rfl)|(apply OKx_ldB;exact rfl;(first | exact at0|exact at1|exact at2|exact at3|exact at4|exact at5|exact at6|exact at7);exact rfl)|(apply OKx_ldR;(conv=>lhs;whnf)<;>exact rfl;(with_reducible assumption))|(apply OKx_len;exact rfl)|(apply OKx_lenR;(conv=>lhs;whnf)<;>exact rfl;(with_reducible assumption))|(apply OKx_lenR2;(conv=>lhs;whnf)<;>exact rfl;(with_reducible assumption))|(apply OKx_lenO;(conv=>lhs;whnf)<;>exact rfl;(first | exact at0|exact at1|exact at2|exact at3|exact at4|exact at5|exact at6|exact at7))|(apply OKx_lss;exact rfl;exact rfl;all_goals (intro _; try (exfalso;omega)))|(apply OKx_eql;exact rfl;exact rfl;all_goals (intro _; try (exfalso;omega)))|(apply OKx_neq;exact rfl;exact rfl;all_goals (intro _; try (exfalso;omega)))|(apply OKx_idxR2;(conv=>lhs;whnf)<;>exact rfl;(with_reducible assumption);exact rfl;omega;intro _ _)|(apply OKx_fldO;exact rfl;exact rfl)|(apply OKx_fldR;(conv=>lhs;whnf)<;>exact rfl;(with_reducible assumption); decide;intro _ _)|(apply OKx_inc;exact rfl;exact rfl;omega)|(apply OKx_addN;exact rfl;exact rfl;omega)|(apply OKx_add;exact rfl;exact rfl;omega;omega)|(apply OKx_extract;exact rfl;(conv=>lhs;whnf)<;>exact rfl)|(apply OKx_allocA;intro _)|(apply OKx_ldBA;exact rfl;(first | exact at0|exact at1|exact at2|exact at3|exact at4|exact at5|exact at6|exact at7);exact rfl)|(apply OKx_ldRA;(conv=>lhs;whnf)<;>exact rfl;(with_reducible assumption))|(apply OKx_ldBo;exact rfl;(first | exact at0|exact at1|exact at2|exact at3|exact at4|exact at5|exact at6|exact at7);omega)|(apply OKx_stBA; kernel_rfl;exact rfl;exact rfl;exact rfl;(first | exact at0|exact at1|exact at2|exact at3|exact at4|exact at5|exact at6|exact at7);exact rfl;exact rfl;exact rfl))
      refine ⟨by (repeat' (first | refine agree_upd rfl ?_ | exact agree_over | exact agree_refl _ _ | refine agree_over2 rfl ?_)), mm - 1, _, by omega, Ent.pick [1] rfl, ?_⟩
      exact ⟨k + 1, by omega, by rw [hs1] <;> rfl, by rw [hs2] <;> rfl, rfl, rfl⟩
    | false =>
      have hcn : (elCor ((prts p).getD k [])).isNone = false := by unfold elCor; rw [if_neg (by rw [ha]; decide)]; rfl
      rw [hcn, if_neg (by decide)] at hs1 hs2
      rw [ha] at hX0
      repeat' (first|(apply OK_seq)|(apply thenQ_n)|(apply OK_region)|(apply OKx_gi; refine OKx_idxOn (i := k) rfl rfl hk ?_)|(apply OKx_gl; refine OKx_ldWA (k := k * 259) (vs := elX p k) 0 rfl rfl (by omega) (elX_len _ _) hcell ?_)|(apply OKx_gs; refine OKx_stBA (by kernel_rfl) (cs' := (elX p k).toArray) 0 rfl rfl (List.all_eq_true.2 (elX_one _ _)) rfl (by rw [List.toList_toArray, elX_len] <;> kernel_rfl) (by rw [List.toList_toArray, elX_len] <;> rfl) rfl ?_)|(apply OKx_gl; refine OKx_ldB (k := 0) (e := 66) (cs := elX p k) 0 rfl rfl hX0 ?_)|(apply OKx_nilK)|(apply OK_block)|(apply blockQ_n)|(apply blockQ_s)|(apply thenQ_e)|(apply blockQ_e;exact rfl)|(apply thenQ_r)|(apply blockQ_r)|(apply OK_condT;exact rfl)|(apply OK_condF;exact rfl)|(apply OK_skip)|(apply OK_exit)|(apply OK_ret)|(apply OKx_move;(conv=>lhs;whnf)<;>exact rfl)|(apply OKx_assign;(conv=>lhs;whnf)<;>exact rfl)|(apply OKx_ldB;exact rfl;(first | exact at0|exact at1|exact at2|exact at3|exact at4|exact at5|exact at6|exact at7);exact rfl)|(apply OKx_ldR;(conv=>lhs;whnf)<;>exact rfl;(with_reducible assumption))|(apply OKx_len;exact rfl)|(apply OKx_lenR;(conv=>lhs;whnf)<;>exact rfl;(with_reducible assumption))|(apply OKx_lenR2;(conv=>lhs;whnf)<;>exact rfl;(with_reducible assumption))|(apply OKx_lenO;(conv=>lhs;whnf)<;>exact rfl;(first | exact at0|exact at1|exact at2|exact at3|exact at4|exact at5|exact at6|exact at7))|(apply OKx_lss;exact rfl;exact rfl;all_goals (intro _; try (exfalso;omega)))|(apply OKx_eql;exact rfl;exact rfl;all_goals (intro _; try (exfalso;omega)))|(apply OKx_neq;exact rfl;exact rfl;all_goals (intro _; try (exfalso;omega)))|(apply OKx_idxR2;(conv=>lhs;whnf)<;>exact rfl;(with_reducible assumption);exact rfl;omega;intro _ _)|(apply OKx_fldO;exact rfl;exact rfl)|(apply OKx_fldR;(conv=>lhs;whnf)<;>exact rfl;(with_reducible assumption); decide;intro _ _)|(apply OKx_inc;exact rfl;exact rfl;omega)|(apply OKx_addN;exact rfl;exact rfl;omega)|(apply OKx_add;exact rfl;exact rfl;omega;omega)|(apply OKx_extract;exact rfl;(conv=>lhs;whnf)<;>exact rfl)|(apply OKx_allocA;intro _)|(apply OKx_ldBA;exact rfl;(first | exact at0|exact at1|exact at2|exact at3|exact at4|exact at5|exact at6|exact at7);exact rfl)|(apply OKx_ldRA;(conv=>lhs;whnf)<;>exact rfl;(with_reducible assumption))|(apply OKx_ldBo;exact rfl;(first | exact at0|exact at1|exact at2|exact at3|exact at4|exact at5|exact at6|exact at7);omega)|(apply OKx_stBA; kernel_rfl;exact rfl;exact rfl;exact rfl;(first | exact at0|exact at1|exact at2|exact at3|exact at4|exact at5|exact at6|exact at7);exact rfl;exact rfl;exact rfl))
      refine ⟨by (repeat' (first | refine agree_upd rfl ?_ | exact agree_over | exact agree_refl _ _ | refine agree_over2 rfl ?_)), mm - 1, _, by omega, Ent.pick [1] rfl, ?_⟩
      exact ⟨k + 1, by omega, by rw [hs1] <;> rfl, by rw [hs2] <;> rfl, rfl, rfl⟩
  · obtain rfl : k = (prts p).length := by omega
    rw [← hpn, List.take_length]
    unfold bndG
    cases hany : (pat p).any Option.isNone with
    | true =>
      rw [if_pos rfl, if_pos rfl]
      repeat' (first|(apply OK_seq)|(apply thenQ_n)|(apply OK_region)|(apply OKx_nilK)|(apply OK_block)|(apply blockQ_n)|(apply blockQ_s)|(apply thenQ_e)|(apply blockQ_e;exact rfl)|(apply thenQ_r)|(apply blockQ_r)|(apply OK_condT;exact rfl)|(apply OK_condF;exact rfl)|(apply OK_skip)|(apply OK_exit)|(apply OK_ret)|(apply OKx_move;(conv=>lhs;whnf)<;>exact rfl)|(apply OKx_assign;(conv=>lhs;whnf)<;>exact rfl)|(apply OKx_ldB;exact rfl;(first | exact at0|exact at1|exact at2|exact at3|exact at4|exact at5|exact at6|exact at7);exact rfl)|(apply OKx_ldR;(conv=>lhs;whnf)<;>exact rfl;(with_reducible assumption))|(apply OKx_len;exact rfl)|(apply OKx_lenR;(conv=>lhs;whnf)<;>exact rfl;(with_reducible assumption))|(apply OKx_lenR2;(conv=>lhs;whnf)<;>exact rfl;(with_reducible assumption))|(apply OKx_lenO;(conv=>lhs;whnf)<;>exact rfl;(first | exact at0|exact at1|exact at2|exact at3|exact at4|exact at5|exact at6|exact at7))|(apply OKx_lss;exact rfl;exact rfl;all_goals (intro _; try (exfalso;omega)))|(apply OKx_eql;exact rfl;exact rfl;all_goals (intro _; try (exfalso;omega)))|(apply OKx_neq;exact rfl;exact rfl;all_goals (intro _; try (exfalso;omega)))|(apply OKx_idxR2;(conv=>lhs;whnf)<;>exact rfl;(with_reducible assumption);exact rfl;omega;intro _ _)|(apply OKx_fldO;exact rfl;exact rfl)|(apply OKx_fldR;(conv=>lhs;whnf)<;>exact rfl;(with_reducible assumption); decide;intro _ _)|(apply OKx_inc;exact rfl;exact rfl;omega)|(apply OKx_addN;exact rfl;exact rfl;omega)|(apply OKx_add;exact rfl;exact rfl;omega;omega)|(apply OKx_extract;exact rfl;(conv=>lhs;whnf)<;>exact rfl)|(apply OKx_allocA;intro _)|(apply OKx_ldBA;exact rfl;(first | exact at0|exact at1|exact at2|exact at3|exact at4|exact at5|exact at6|exact at7);exact rfl)|(apply OKx_ldRA;(conv=>lhs;whnf)<;>exact rfl;(with_reducible assumption))|(apply OKx_ldBo;exact rfl;(first | exact at0|exact at1|exact at2|exact at3|exact at4|exact at5|exact at6|exact at7);omega)|(apply OKx_stBA; kernel_rfl;exact rfl;exact rfl;exact rfl;(first | exact at0|exact at1|exact at2|exact at3|exact at4|exact at5|exact at6|exact at7);exact rfl;exact rfl;exact rfl))
      refine bodyQ_r3 (by ((conv=>lhs;whnf)<;>exact rfl)) (by ((conv=>lhs;whnf)<;>exact rfl)) (by ((conv=>lhs;whnf)<;>exact rfl)) ?_
      exact ⟨_, Ent.nil, rfl, rfl⟩
    | false =>
      rw [if_neg (by decide), if_neg (by decide)]
      repeat' (first|(apply OK_seq)|(apply thenQ_n)|(apply OK_region)|(apply OKx_nilK)|(apply OK_block)|(apply blockQ_n)|(apply blockQ_s)|(apply thenQ_e)|(apply blockQ_e;exact rfl)|(apply thenQ_r)|(apply blockQ_r)|(apply OK_condT;exact rfl)|(apply OK_condF;exact rfl)|(apply OK_skip)|(apply OK_exit)|(apply OK_ret)|(apply OKx_move;(conv=>lhs;whnf)<;>exact rfl)|(apply OKx_assign;(conv=>lhs;whnf)<;>exact rfl)|(apply OKx_ldB;exact rfl;(first | exact at0|exact at1|exact at2|exact at3|exact at4|exact at5|exact at6|exact at7);exact rfl)|(apply OKx_ldR;(conv=>lhs;whnf)<;>exact rfl;(with_reducible assumption))|(apply OKx_len;exact rfl)|(apply OKx_lenR;(conv=>lhs;whnf)<;>exact rfl;(with_reducible assumption))|(apply OKx_lenR2;(conv=>lhs;whnf)<;>exact rfl;(with_reducible assumption))|(apply OKx_lenO;(conv=>lhs;whnf)<;>exact rfl;(first | exact at0|exact at1|exact at2|exact at3|exact at4|exact at5|exact at6|exact at7))|(apply OKx_lss;exact rfl;exact rfl;all_goals (intro _; try (exfalso;omega)))|(apply OKx_eql;exact rfl;exact rfl;all_goals (intro _; try (exfalso;omega)))|(apply OKx_neq;exact rfl;exact rfl;all_goals (intro _; try (exfalso;omega)))|(apply OKx_idxR2;(conv=>lhs;whnf)<;>exact rfl;(with_reducible assumption);exact rfl;omega;intro _ _)|(apply OKx_fldO;exact rfl;exact rfl)|(apply OKx_fldR;(conv=>lhs;whnf)<;>exact rfl;(with_reducible assumption); decide;intro _ _)|(apply OKx_inc;exact rfl;exact rfl;omega)|(apply OKx_addN;exact rfl;exact rfl;omega)|(apply OKx_add;exact rfl;exact rfl;omega;omega)|(apply OKx_extract;exact rfl;(conv=>lhs;whnf)<;>exact rfl)|(apply OKx_allocA;intro _)|(apply OKx_ldBA;exact rfl;(first | exact at0|exact at1|exact at2|exact at3|exact at4|exact at5|exact at6|exact at7);exact rfl)|(apply OKx_ldRA;(conv=>lhs;whnf)<;>exact rfl;(with_reducible assumption))|(apply OKx_ldBo;exact rfl;(first | exact at0|exact at1|exact at2|exact at3|exact at4|exact at5|exact at6|exact at7);omega)|(apply OKx_stBA; kernel_rfl;exact rfl;exact rfl;exact rfl;(first | exact at0|exact at1|exact at2|exact at3|exact at4|exact at5|exact at6|exact at7);exact rfl;exact rfl;exact rfl))
      refine bodyQ_r3 (by ((conv=>lhs;whnf)<;>exact rfl)) (by ((conv=>lhs;whnf)<;>exact rfl)) (by ((conv=>lhs;whnf)<;>exact rfl)) ?_
      exact ⟨_, Ent.nil, rfl, rfl⟩
end Go.Proofs.YtbooccpfdekaiaaDoor
