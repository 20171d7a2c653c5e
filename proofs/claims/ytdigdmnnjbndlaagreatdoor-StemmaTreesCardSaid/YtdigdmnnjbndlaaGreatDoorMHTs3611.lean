/-
  Part 11 of the proof: Cpt, As38, Any, Be38, Pd38, As39, Po39, Ro39, Sm38, Gr38, Lc38, Re39, Rp39. No statement of the seat is proved here.
-/
import Derived.Test.YtdigdmnnjbndlaaGreatDoorMHTs3610
namespace Go.Proofs.YtdigdmnnjbndlaaGreatDoor
open Go.RowKit
theorem arr_get (xs : List Int) (j : Nat) (h : j < xs.length) : xs.toArray[j]! = xs[j] := by simp [h]
theorem compact_mem (xs : List Int) (x : Int) : x ∈ Lib.compact xs ↔ x ∈ xs := by
  unfold Lib.compact Lib.compactUpTo
  simp only [List.mem_map, List.mem_filter, List.mem_range]
  constructor
  · rintro ⟨j, ⟨h1, _⟩, rfl⟩
    rw [arr_get xs j h1]
    exact List.getElem_mem h1
  · intro hx
    obtain ⟨j, hj, rfl⟩ := List.getElem_of_mem hx
    clear hx
    induction j with
    | zero => exact ⟨0, ⟨hj, by simp [Lib.keeps]⟩, arr_get xs 0 hj⟩
    | succ j ih =>
      by_cases he : xs[j + 1] = xs[j]
      · rw [he]; exact ih (by omega)
      · refine ⟨j + 1, ⟨hj, ?_⟩, arr_get xs _ hj⟩
        apply Lib.keeps_pos
        rw [arr_get xs _ hj, Nat.add_sub_cancel, arr_get xs j (by omega)]
        exact he
theorem compact_asc (xs : List Int) (h : xs.Pairwise (· ≤ ·)) : (Lib.compact xs).Pairwise (· < ·) := by
  unfold Lib.compact Lib.compactUpTo
  rw [List.pairwise_map]
  refine (List.Pairwise.filter (Lib.keeps xs.toArray) List.pairwise_lt_range).imp_of_mem ?_
  intro i j hi hj hij
  simp only [List.mem_filter, List.mem_range] at hi hj
  have hk : xs.toArray[j]! ≠ xs.toArray[j - 1]! := by
    have := hj.2
    simp only [Lib.keeps, decide_eq_true_eq] at this
    rcases this with h0 | h0
    · omega
    · exact h0
  rw [arr_get xs j hj.1, arr_get xs (j - 1) (by omega)] at hk
  rw [arr_get xs i hi.1, arr_get xs j hj.1]
  have hp := List.pairwise_iff_getElem.1 h
  have h1 := hp (j - 1) j (by omega) hj.1 (by omega)
  rcases Nat.lt_or_ge i (j - 1) with h2 | h2
  · have := hp i (j - 1) hi.1 (by omega) h2
    omega
  · have : i = j - 1 := by omega
    subst this
    omega
theorem compact_len (xs : List Int) : (Lib.compact xs).length ≤ xs.length := by
  unfold Lib.compact Lib.compactUpTo
  rw [List.length_map]
  exact Nat.le_trans (List.length_filter_le _ _) (by simp)
set_option maxRecDepth 100000 in
set_option maxHeartbeats 4000000 in
theorem compact_int_sat (g cap n : Nat) (xs : List Int) (w0 : World) (L : List Res) (i : Nat) (hxn : xs.length = n) (hi : L[i]? = some (.row 3 1 (.slice (some ⟨g, 0, none⟩) n cap) n (ints xs))) (hx : n ≤ 1000000) :
    SatL Tryz.prog 97 [.slice (some ⟨g, 0, none⟩) n cap] w0 L (fun u L' => ∃ k, k = (Lib.compact xs).length ∧ u = .slice (some ⟨g, 0, none⟩) k cap ∧ L' = L.set i (.row 3 1 (.slice (some ⟨g, 0, none⟩) k cap) k (ints (Lib.compact xs)))) := by
  subst hxn
  refine ⟨⟨_, _, Tryz.func97, by kernel_rfl, rfl⟩, fun w hp => ?_⟩
  have ho : w.ownsRow w0.heap.size 3 1 (.slice (some ⟨g, 0, none⟩) xs.length cap) xs.length (ints xs) := hp.ok _ (List.mem_of_getElem? hi)
  have hlt := (ho.lt g rfl).2
  rcases ho.2 with ⟨h0, _⟩ | ⟨g', cap', cur, hv, hg, hb, hn, hcap, hsz, htake⟩
  · cases h0
  cases hv
  rw [Nat.mul_one] at htake
  have hcl := compact_len xs
  let ts := Lib.compact xs ++ List.replicate (xs.length - (Lib.compact xs).length) 0
  have htl : ts.length = xs.length := by simp [ts];omega
  refine (Tryz.slices_Compact_int g 0 cap xs w (Go.holds_of_blockI hb htake) (by omega) hn).mono ?_
  rintro e w' ⟨rfl, q, rfl⟩
  have e0 : ∀ W : World, Go.Sort.grow W #[] = W := fun W => Go.Sort.grow_empty W
  rw [← e0 (Go.Sort.putRow _ _ _ _ _)]
  have h1 : Hp w0.heap.size w0 (Go.Sort.grow (Go.Sort.putRow (Value.int .i64) (Go.Sort.ahead w q) g 0 ts.toArray) #[]) (L.set i (.row 3 1 (.slice (some ⟨g, 0, none⟩) xs.length cap) xs.length (ints ts))) :=
    hp.turn hi (r' := .row 3 1 (.slice (some ⟨g, 0, none⟩) xs.length cap) xs.length (ints ts)) (Go.grownBy_sortedI _) (Go.ownsRow_sortedI (w := w) (n := q) (os := #[]) (ts := ts) htl hg hb hn hcap hsz) (fun k hk => .inl hk)
  have hil : i < L.length := (List.getElem?_eq_some_iff.1 hi).1
  have hi2 : (L.set i (.row 3 1 (.slice (some ⟨g, 0, none⟩) xs.length cap) xs.length (ints ts)))[i]? = some (.row 3 1 (.slice (some ⟨g, 0, none⟩) xs.length cap) xs.length (ints ts)) := by
    rw [List.getElem?_set, if_pos rfl, if_pos hil]
  have h2 := h1.cut i hi2 (Lib.compact xs).length hcl
  rw [List.set_set] at h2
  have h3 : (ints ts).take ((Lib.compact xs).length * 1) = ints (Lib.compact xs) := by
    rw [Nat.mul_one]
    simp [ts, ints]
  rw [h3] at h2
  exact ⟨_, _, rfl, h2, _, rfl, rfl, rfl⟩
end Go.Proofs.YtdigdmnnjbndlaaGreatDoor
namespace Go.Proofs.YtdigdmnnjbndlaaGreatDoor
open Go.RowKit
theorem Ent.pickT {w0 : World} (A X : List Res) (is : List Nat) (hn : nodupB is = true) : Ent w0 (A ++ X) (pickL A is ++ X) := Ent.mk fun w hp => by
  induction is with
  | nil => exact hp.sub (List.sublist_append_right A X)
  | cons i is ih =>
    have hm : memN i is = false := by
      cases hb : memN i is with
      | false => rfl
      | true => simp [nodupB, hb] at hn
    have ih := ih (by simpa [nodupB, hm] using hn)
    unfold pickL at ih ⊢
    rw [List.filterMap_cons]
    cases hi : A[i]? with
    | none => exact ih
    | some r =>
      have hil := (List.getElem?_eq_some_iff.1 hi).1
      have hi' : (A ++ X)[i]? = some r := by rw [List.getElem?_append_left hil]; exact hi
      refine ih.cons (hp.ok r (List.mem_of_getElem? hi')) fun s hs => ?_
      rcases List.mem_append.1 hs with hs | hs
      · obtain ⟨j, hj, hjs⟩ := List.mem_filterMap.1 hs
        have hjl := (List.getElem?_eq_some_iff.1 hjs).1
        have hij : i ≠ j := by
          rintro rfl
          have := (memN_iff i is).2 hj
          rw [hm] at this; cases this
        exact hp.apart hij hi' (j := j) (by rw [List.getElem?_append_left hjl]; exact hjs)
      · obtain ⟨j, hj, rfl⟩ := List.getElem_of_mem hs
        exact hp.apart (i := i) (j := A.length + j) (by omega) hi' (by rw [List.getElem?_append_right (by omega)]; simp [hj])
def capsA (g1 gy go gf gv : Nat) : List Value := [.pointer (some ⟨g1, 0, none⟩), .pointer (some ⟨gy, 0, none⟩), .pointer (some ⟨go, 0, none⟩), .pointer (some ⟨gf, 0, none⟩), .pointer (some ⟨gv, 0, none⟩)]
def zA (y m g c g1 gy go gf gv : Nat) (sv ov : Value) (vs : List Int) : List Res :=
  [.box 22 g1 [sv], .box 113 gy [.func (.yield y) #[] #[]], .box 22 go [ov], .box 110 gf [.func (.func 129) #[] (capsA g1 gy go gf gv).toArray], .box 22 gv [.slice (some ⟨g, 0, none⟩) m c],
    .row 3 1 (.slice (some ⟨g, 0, none⟩) m c) m (ints vs)]
end Go.Proofs.YtdigdmnnjbndlaaGreatDoor
namespace Go.Proofs.YtdigdmnnjbndlaaGreatDoor
open Go.RowKit
def maskS (n : Nat) (S : List Nat) : Array Bool := ((List.range n).map fun i => memN i S).toArray
section
variable {P : Program} {n : Nat} {w0 : World} {Q : Exit → Fm → List Res → Prop} {K : Fm → List Res → Prop} {F : Fm} {L : List Res} {l : List Oper} {N f : Nat} {S : List Nat}
def OKa (P : Program) (n : Nat) (w0 : World) (K : Fm → List Res → Prop) (l : List Oper) (N f : Nat) (S : List Nat) (F : Fm) (L : List Res) : Prop :=
  ∀ w a, Fr n a F → Hp w0.heap.size w0 w L → wpAny P .any l.toArray (liftN n w0 K) f (maskS N S) a w
theorem OKa.use (h : OKa P n w0 K l N f S F L) : ∀ w a, Fr n a F → Hp w0.heap.size w0 w L → wpAny P .any l.toArray (liftN n w0 K) f (maskS N S) a w := h
theorem OKa_end (hr : (Region.ready .any l.toArray (maskS N S)).isEmpty = true) (h : K F L) : OKa P n w0 K l N 0 S F L :=
  fun w a hf hp => ⟨List.isEmpty_iff.1 hr, rfl, F, L, hf, hp, h⟩
def kidOk (l : List Oper) (N : Nat) (S : List Nat) (i : Nat) (S' : List Nat) : Bool := (maskS N S').toList == ((maskS N S).setIfInBounds i true).toList
theorem kidOk_eq {i : Nat} {S' : List Nat} (h : kidOk l N S i S' = true) : maskS N S' = (maskS N S).setIfInBounds i true := by
  unfold kidOk at h
  exact Array.toList_inj.1 (beq_iff_eq.1 h)
end
attribute [irreducible] OKa
end Go.Proofs.YtdigdmnnjbndlaaGreatDoor
namespace Go.Proofs.YtdigdmnnjbndlaaGreatDoor
open Go.RowKit
theorem SatY.mono {P : Program} {l : Nat} {args : List Value} {w0 : World} {L : List Res} {R R' : Value → List Res → Prop} (h : SatY P l args w0 L R) (hr : ∀ v L, R v L → R' v L) : SatY P l args w0 L R' :=
  fun w hp => let ⟨fn, t, as2, b, h1, h2⟩ := h w hp; ⟨fn, t, as2, b, h1, h2.mono fun e w' ⟨v, L', a, b, c⟩ => ⟨v, L', a, b, hr _ _ c⟩⟩
structure Gh where
  (y m g c gy go gf gv : Nat)
  (ov : Value)
  (o : List Int)
  (pre : List (List Int))
  (J : List Res)
def Gh.Z (x : Gh) (g1 : Nat) (sv : Value) (vs : List Int) : List Res := zA x.y x.m x.g x.c g1 x.gy x.go x.gf x.gv sv x.ov vs
end Go.Proofs.YtdigdmnnjbndlaaGreatDoor
namespace Go.Proofs.YtdigdmnnjbndlaaGreatDoor
theorem getD_mem {α : Type} (l : List α) (i : Nat) (d : α) (h : i < l.length) : l.getD i d ∈ l := by
  rw [getD_lt _ _ _ h]
  exact List.getElem_mem h
end Go.Proofs.YtdigdmnnjbndlaaGreatDoor
namespace Go.Proofs.YtdigdmnnjbndlaaGreatDoor
open Go.RowKit
theorem SatL.post {P : Program} {f : FuncId} {args : List Value} {w0 : World} {L : List Res} {R R' : Value → List Res → Prop} (h : SatL P f args w0 L R) (hr : ∀ v L', R v L' → ∃ L'', Ent w0 L' L'' ∧ R' v L'') : SatL P f args w0 L R' :=
  ⟨h.enters, fun w hp => (h.calls w hp).mono fun e w' ⟨v, L', h1, h2, h3⟩ => by
    obtain ⟨L'', e', h4⟩ := hr v L' h3
    exact ⟨v, L'', h1, e'.use _ h2, h4⟩⟩
end Go.Proofs.YtdigdmnnjbndlaaGreatDoor
namespace Go.Proofs.YtdigdmnnjbndlaaGreatDoor
open Go.RowKit
theorem getD_snoc {α : Type} (l : List α) (a d : α) (j : Nat) : (l ++ [a]).getD j d = if j < l.length then l.getD j d else if j = l.length then a else d := by
  by_cases h : j < l.length
  · rw [if_pos h]; simp [List.getD_eq_getElem?_getD, List.getElem?_append_left h]
  · rw [if_neg h]
    by_cases h2 : j = l.length
    · subst h2; simp
    · rw [if_neg h2, getD_ge _ _ _ (by simp;omega)]
end Go.Proofs.YtdigdmnnjbndlaaGreatDoor
namespace Go.Proofs.YtdigdmnnjbndlaaGreatDoor
open Go.RowKit
section
variable {P : Program} {n : Nat} {w0 : World} {Q : Exit → Fm → List Res → Prop} {K : Fm → List Res → Prop} {F : Fm} {L : List Res} {m : Md} {ops : Array Oper} {rest : List Oper} {d : Option Nat} {ty : TypeId} {pos : String} {aft : Array Edge}
theorem OK_world {c : Code} (h : ∀ w, Hp w0.heap.size w0 w L → OK P n w0 Q c F L) : OK P n w0 Q c F L := OK.mk' fun w a hf hp => (h w hp).use w a hf hp
theorem OKx_ldH {t : TypeId} {z : Value} [T : TOne P t z] {x : Operand} {b k : Nat} {v : Value} (hx : rv n F x = .pointer (some ⟨b, k, none⟩)) (hc : ∀ w, Hp w0.heap.size w0 w L → w.cell? ⟨b, k, none⟩ = some v)
    (kk : OKx P n w0 m ops K rest (updo F d v) L) : OKx P n w0 m ops K (⟨d, .load t x, ty, pos, aft, none⟩ :: rest) F L :=
  OKx_still (fun w hp _ _ _ _ => run_load1 T hx (hc w hp) _ _ _ _) kk
theorem Sl.form {v : Value} {N : Nat} {f : Nat → Value} {C : World → Prop} (h : ∀ w, C w → Sl w v 1 N f) (w1 : World) (h1 : C w1) : ∃ a c, v = .slice a N c ∧ (0 < N → ∃ b o, a = some ⟨b, o, none⟩ ∧ ∀ w, C w → ∀ j, j < N → w.cell? ⟨b, o + j, none⟩ = some (f j)) := by
  obtain ⟨a, c, rfl, _⟩ := (h w1 h1).out
  refine ⟨a, c, rfl, fun h0 => ?_⟩
  obtain ⟨a2, c2, e, hc⟩ := (h w1 h1).out
  simp only [Value.slice.injEq] at e
  obtain ⟨rfl, _, rfl⟩ := e
  rcases hc with hc | ⟨b, o, rfl, _⟩
  · omega
  refine ⟨b, o, rfl, fun w hw j hj => ?_⟩
  obtain ⟨a2, c2, e, hc⟩ := (h w hw).out
  simp only [Value.slice.injEq] at e
  obtain ⟨rfl, _, rfl⟩ := e
  rcases hc with hc | ⟨b2, o2, e2, hc⟩
  · omega
  simp only [Option.some.injEq, Addr.mk.injEq] at e2
  obtain ⟨rfl, rfl, _⟩ := e2
  exact hc j (by omega)
end
def rtL (par : List (List Int)) (k : Nat) : List Int := ((List.range k).filter (fun i => decide ((par.getD i []).length = 0))).map (fun i : Nat => (i : Int))
theorem rtL_step (par : List (List Int)) (k : Nat) : rtL par (k + 1) = rtL par k ++ if (par.getD k []).length = 0 then [(k : Int)] else [] := by
  unfold rtL
  rw [List.range_succ, List.filter_append, List.map_append]
  congr 1
  by_cases h : (par.getD k []).length = 0
  · rw [if_pos h, List.filter_cons_of_pos (by simpa using h)]; rfl
  · rw [if_neg h, List.filter_cons_of_neg (by simpa using h)]; rfl
theorem rtL_len (par : List (List Int)) (k : Nat) : (rtL par k).length ≤ k := by
  unfold rtL
  rw [List.length_map]
  exact Nat.le_trans (List.length_filter_le _ _) (by simp)
def rts (s : Stem) : List Int := rtL s.par s.par.length
def RtsR (s : Stem) (u : Value) (L : List Res) : Prop :=
  (stCheck s ≠ 0 ∧ u = .tuple #[.slice none 0 0, .int .i64 1] ∧ L = []) ∨
  (stCheck s = 0 ∧ ∃ a c, u = .tuple #[.slice a (rts s).length c, .int .i64 0] ∧ (0 < (rts s).length → ∃ g, a = some ⟨g, 0, none⟩) ∧ L = [.row 3 1 (.slice a (rts s).length c) (rts s).length (ints (rts s))])
set_option maxRecDepth 100000 in
set_option maxHeartbeats 4000000 in
theorem rts1_sat (v : Value) (xs : List Int) (w : World) (h : Ints w v xs) : SatV Tryz.prog 73 [v] w (.bool (decide (xs.length = 0))) := by
  have hv := h.sl
  refine SatL.of 6 [2] Tryz.func73 (by kernel_rfl) (by kernel_rfl) rfl rfl rfl rfl ?_
  repeat' (first|(apply OK_seq)|(apply thenQ_n)|(apply OK_region)|(apply OKx_nilK)|(apply OK_block)|(apply blockQ_n)|(apply blockQ_s)|(apply thenQ_e)|(apply blockQ_e;exact rfl)|(apply thenQ_r)|(apply blockQ_r)|(apply OK_condT;exact rfl)|(apply OK_condF;exact rfl)|(apply OK_skip)|(apply OK_exit)|(apply OK_ret)|(apply OKx_move;(conv=>lhs;whnf)<;>exact rfl)|(apply OKx_assign;(conv=>lhs;whnf)<;>exact rfl)|(apply OKx_len;exact rfl)|(apply OKx_lenR;(conv=>lhs;whnf)<;>exact rfl;(with_reducible assumption))|(apply OKx_lenR2;(conv=>lhs;whnf)<;>exact rfl;(with_reducible assumption))|(apply OKx_lenO;(conv=>lhs;whnf)<;>exact rfl;(first | exact at0|exact at1|exact at2|exact at3|exact at4|exact at5|exact at6|exact at7))|(apply OKx_eql;exact rfl;exact rfl;all_goals (intro _; try (exfalso;omega))))
  · refine bodyQ_r1 (by ((conv=>lhs;whnf)<;>exact rfl)) ?_
    exact ⟨_, Ent.nil, bool_eq (decide_eq_true (by omega)).symm, rfl⟩
  · refine bodyQ_r1 (by ((conv=>lhs;whnf)<;>exact rfl)) ?_
    exact ⟨_, Ent.nil, bool_eq (decide_eq_false (by omega)).symm, rfl⟩
set_option maxRecDepth 100000 in
set_option maxHeartbeats 4000000 in
theorem nodesR_sat (v : Value) (s : Stem) (w : World) (h : Stm w v s) : Sat Tryz.prog 71 [v, .func (.func 73) #[] #[]] w (RtsR s) := by
  have hst := h
  obtain ⟨nv, ev, pv, rfl, _, _, hP⟩ := h
  obtain ⟨fv, hpv, hrow⟩ := hP.rows
  have hpb := hpv.bound
  by_cases hc : stCheck s = 0
  rotate_left
  · refine SatL.of 29 [4, 5] Tryz.func71 (by kernel_rfl) (by kernel_rfl) rfl rfl rfl rfl ?_
    repeat' (first|(apply OK_seq)|(apply thenQ_n)|(apply OK_region)|(apply OKx_gc 23;exact rfl; refine OKx_callV (f := 23) rfl rfl rfl (fun w1 hp => stCheck_sat _ s w1 (hst.below hp.below)) ?_)|(apply OKx_nilK)|(apply OK_block)|(apply blockQ_n)|(apply blockQ_s)|(apply thenQ_e)|(apply blockQ_e;exact rfl)|(apply thenQ_r)|(apply blockQ_r)|(apply OK_condT;exact rfl)|(apply OK_condF;exact rfl)|(apply OK_skip)|(apply OK_exit)|(apply OK_ret)|(apply OKx_move;(conv=>lhs;whnf)<;>exact rfl)|(apply OKx_assign;(conv=>lhs;whnf)<;>exact rfl)|(apply OKx_ldB;exact rfl;(first | exact at0|exact at1|exact at2|exact at3|exact at4|exact at5|exact at6|exact at7);exact rfl)|(apply OKx_ldR;(conv=>lhs;whnf)<;>exact rfl;(with_reducible assumption))|(apply OKx_len;exact rfl)|(apply OKx_lenR;(conv=>lhs;whnf)<;>exact rfl;(with_reducible assumption))|(apply OKx_lenR2;(conv=>lhs;whnf)<;>exact rfl;(with_reducible assumption))|(apply OKx_lenO;(conv=>lhs;whnf)<;>exact rfl;(first | exact at0|exact at1|exact at2|exact at3|exact at4|exact at5|exact at6|exact at7))|(apply OKx_lss;exact rfl;exact rfl;all_goals (intro _; try (exfalso;omega)))|(apply OKx_neq;exact rfl;exact rfl;all_goals (intro _; try (exfalso;omega)))|(apply OKx_idxO;exact rfl;exact rfl;omega)|(apply OKx_idxR;(conv=>lhs;whnf)<;>exact rfl;(with_reducible assumption);exact rfl;omega;intro _ _)|(apply OKx_idxOz;exact rfl;exact rfl;omega;omega)|(apply OKx_idxRz;(conv=>lhs;whnf)<;>exact rfl;(with_reducible assumption);exact rfl;omega;omega;intro _ _)|(apply OKx_fldO;exact rfl;exact rfl)|(apply OKx_fldR;(conv=>lhs;whnf)<;>exact rfl;(with_reducible assumption); decide;intro _ _)|(apply OKx_inc;exact rfl;exact rfl;omega)|(apply OKx_addN;exact rfl;exact rfl;omega)|(apply OKx_add;exact rfl;exact rfl;omega;omega)|(apply OKx_boxA;exact rfl;intro _)|(apply OKx_ldBA;exact rfl;(first | exact at0|exact at1|exact at2|exact at3|exact at4|exact at5|exact at6|exact at7);exact rfl)|(apply OKx_ldRA;(conv=>lhs;whnf)<;>exact rfl;(with_reducible assumption))|(apply OKx_slit1;(conv=>lhs;whnf)<;>exact rfl;exact rfl;intro _))
    refine bodyQ_r2 (by ((conv=>lhs;whnf)<;>exact rfl)) (by ((conv=>lhs;whnf)<;>exact rfl)) ?_
    exact ⟨_, Ent.nil, .inl ⟨hc, rfl, rfl⟩⟩
  have hlen := stCheck_len s hc
  refine SatL.of 29 [4, 5] Tryz.func71 (by kernel_rfl) (by kernel_rfl) rfl rfl rfl rfl ?_
  repeat' (first|(apply OK_seq)|(apply thenQ_n)|(apply OK_region)|(apply OKx_gc 23;exact rfl; refine OKx_callV (f := 23) (v := .int .i64 0) rfl rfl rfl (fun w1 hp => by rw [← hc]; exact stCheck_sat _ s w1 (hst.below hp.below)) ?_)|(apply OKx_nilK)|(apply OK_block)|(apply blockQ_n)|(apply blockQ_s)|(apply thenQ_e)|(apply blockQ_e;exact rfl)|(apply thenQ_r)|(apply blockQ_r)|(apply OK_condT;exact rfl)|(apply OK_condF;exact rfl)|(apply OK_skip)|(apply OK_exit)|(apply OK_ret)|(apply OKx_move;(conv=>lhs;whnf)<;>exact rfl)|(apply OKx_assign;(conv=>lhs;whnf)<;>exact rfl)|(apply OKx_ldB;exact rfl;(first | exact at0|exact at1|exact at2|exact at3|exact at4|exact at5|exact at6|exact at7);exact rfl)|(apply OKx_ldR;(conv=>lhs;whnf)<;>exact rfl;(with_reducible assumption))|(apply OKx_len;exact rfl)|(apply OKx_lenR;(conv=>lhs;whnf)<;>exact rfl;(with_reducible assumption))|(apply OKx_lenR2;(conv=>lhs;whnf)<;>exact rfl;(with_reducible assumption))|(apply OKx_lenO;(conv=>lhs;whnf)<;>exact rfl;(first | exact at0|exact at1|exact at2|exact at3|exact at4|exact at5|exact at6|exact at7))|(apply OKx_lss;exact rfl;exact rfl;all_goals (intro _; try (exfalso;omega)))|(apply OKx_neq;exact rfl;exact rfl;all_goals (intro _; try (exfalso;omega)))|(apply OKx_idxO;exact rfl;exact rfl;omega)|(apply OKx_idxR;(conv=>lhs;whnf)<;>exact rfl;(with_reducible assumption);exact rfl;omega;intro _ _)|(apply OKx_idxOz;exact rfl;exact rfl;omega;omega)|(apply OKx_idxRz;(conv=>lhs;whnf)<;>exact rfl;(with_reducible assumption);exact rfl;omega;omega;intro _ _)|(apply OKx_fldO;exact rfl;exact rfl)|(apply OKx_fldR;(conv=>lhs;whnf)<;>exact rfl;(with_reducible assumption); decide;intro _ _)|(apply OKx_inc;exact rfl;exact rfl;omega)|(apply OKx_addN;exact rfl;exact rfl;omega)|(apply OKx_add;exact rfl;exact rfl;omega;omega)|(apply OKx_boxA;exact rfl;intro _)|(apply OKx_ldBA;exact rfl;(first | exact at0|exact at1|exact at2|exact at3|exact at4|exact at5|exact at6|exact at7);exact rfl)|(apply OKx_ldRA;(conv=>lhs;whnf)<;>exact rfl;(with_reducible assumption))|(apply OKx_slit1;(conv=>lhs;whnf)<;>exact rfl;exact rfl;intro _))
  rename_i g2 _
  refine OK_loop2 6 15 [6, 7, 8, 15, 16, 17, 18, 19, 20, 21, 22, 23, 24, 25, 26, 27] (fun m u v L => ∃ (k n : Nat) (a : Option Addr) (c : Nat), k + m = s.par.length ∧ n = (rtL s.par k).length ∧ u = .slice a n c ∧ (0 < n → ∃ g, a = some ⟨g, 0, none⟩) ∧ v = .int .i64 (k : Int) ∧ L = [.row 3 1 (.slice a n c) n (ints (rtL s.par k)), .box 34 g2 [nv, ev, pv]]) s.par.length _ (Ent.mk fun w1 hp => hp.nil 3 1) ⟨0, 0, none, 0, by omega, rfl, rfl, fun h => absurd h (by omega), rfl, rfl⟩ ?_
  rintro m u v L G ⟨k, n, a, c, hm, hn, rfl, ha, rfl, rfl⟩
  by_cases hk : k < s.par.length
  rotate_left
  · obtain rfl : k = s.par.length := by omega
    subst hn
    repeat' (first|(apply OK_seq)|(apply thenQ_n)|(apply OK_region)|(apply OKx_nilK)|(apply OK_block)|(apply blockQ_n)|(apply blockQ_s)|(apply thenQ_e)|(apply blockQ_e;exact rfl)|(apply thenQ_r)|(apply blockQ_r)|(apply OK_condT;exact rfl)|(apply OK_condF;exact rfl)|(apply OK_skip)|(apply OK_exit)|(apply OK_ret)|(apply OKx_move;(conv=>lhs;whnf)<;>exact rfl)|(apply OKx_assign;(conv=>lhs;whnf)<;>exact rfl)|(apply OKx_ldB;exact rfl;(first | exact at0|exact at1|exact at2|exact at3|exact at4|exact at5|exact at6|exact at7);exact rfl)|(apply OKx_ldR;(conv=>lhs;whnf)<;>exact rfl;(with_reducible assumption))|(apply OKx_len;exact rfl)|(apply OKx_lenR;(conv=>lhs;whnf)<;>exact rfl;(with_reducible assumption))|(apply OKx_lenR2;(conv=>lhs;whnf)<;>exact rfl;(with_reducible assumption))|(apply OKx_lenO;(conv=>lhs;whnf)<;>exact rfl;(first | exact at0|exact at1|exact at2|exact at3|exact at4|exact at5|exact at6|exact at7))|(apply OKx_lss;exact rfl;exact rfl;all_goals (intro _; try (exfalso;omega)))|(apply OKx_neq;exact rfl;exact rfl;all_goals (intro _; try (exfalso;omega)))|(apply OKx_idxO;exact rfl;exact rfl;omega)|(apply OKx_idxR;(conv=>lhs;whnf)<;>exact rfl;(with_reducible assumption);exact rfl;omega;intro _ _)|(apply OKx_idxOz;exact rfl;exact rfl;omega;omega)|(apply OKx_idxRz;(conv=>lhs;whnf)<;>exact rfl;(with_reducible assumption);exact rfl;omega;omega;intro _ _)|(apply OKx_fldO;exact rfl;exact rfl)|(apply OKx_fldR;(conv=>lhs;whnf)<;>exact rfl;(with_reducible assumption); decide;intro _ _)|(apply OKx_inc;exact rfl;exact rfl;omega)|(apply OKx_addN;exact rfl;exact rfl;omega)|(apply OKx_add;exact rfl;exact rfl;omega;omega)|(apply OKx_boxA;exact rfl;intro _)|(apply OKx_ldBA;exact rfl;(first | exact at0|exact at1|exact at2|exact at3|exact at4|exact at5|exact at6|exact at7);exact rfl)|(apply OKx_ldRA;(conv=>lhs;whnf)<;>exact rfl;(with_reducible assumption))|(apply OKx_slit1;(conv=>lhs;whnf)<;>exact rfl;exact rfl;intro _))
    refine bodyQ_r2 (by ((conv=>lhs;whnf)<;>exact rfl)) (by ((conv=>lhs;whnf)<;>exact rfl)) ?_
    exact ⟨_, Ent.pick [0] rfl, .inr ⟨hc, a, c, rfl, ha, rfl⟩⟩
  have hs := rtL_step s.par k
  have hle := rtL_len s.par k
  have hrk := hrow k
  generalize hys : rtL s.par k = ys at *
  by_cases hz : (s.par.getD k []).length = 0
  · rw [if_pos hz] at hs
    repeat' (first|(apply OK_seq)|(apply thenQ_n)|(apply OK_region)|(apply OKx_gc 73;exact rfl; refine OKx_callV (f := 73) (v := .bool true) rfl rfl rfl (fun w1 hp => by have := rts1_sat _ _ w1 (hrk.below hp.below); rwa [decide_eq_true hz] at this) ?_)|(apply OKx_gb; refine OKx_appI 1 0 rfl rfl rfl rfl (by omega) (by omega) ?_; intro g5 c5)|(apply OKx_nilK)|(apply OK_block)|(apply blockQ_n)|(apply blockQ_s)|(apply thenQ_e)|(apply blockQ_e;exact rfl)|(apply thenQ_r)|(apply blockQ_r)|(apply OK_condT;exact rfl)|(apply OK_condF;exact rfl)|(apply OK_skip)|(apply OK_exit)|(apply OK_ret)|(apply OKx_move;(conv=>lhs;whnf)<;>exact rfl)|(apply OKx_assign;(conv=>lhs;whnf)<;>exact rfl)|(apply OKx_ldB;exact rfl;(first | exact at0|exact at1|exact at2|exact at3|exact at4|exact at5|exact at6|exact at7);exact rfl)|(apply OKx_ldR;(conv=>lhs;whnf)<;>exact rfl;(with_reducible assumption))|(apply OKx_len;exact rfl)|(apply OKx_lenR;(conv=>lhs;whnf)<;>exact rfl;(with_reducible assumption))|(apply OKx_lenR2;(conv=>lhs;whnf)<;>exact rfl;(with_reducible assumption))|(apply OKx_lenO;(conv=>lhs;whnf)<;>exact rfl;(first | exact at0|exact at1|exact at2|exact at3|exact at4|exact at5|exact at6|exact at7))|(apply OKx_lss;exact rfl;exact rfl;all_goals (intro _; try (exfalso;omega)))|(apply OKx_neq;exact rfl;exact rfl;all_goals (intro _; try (exfalso;omega)))|(apply OKx_idxO;exact rfl;exact rfl;omega)|(apply OKx_idxR;(conv=>lhs;whnf)<;>exact rfl;(with_reducible assumption);exact rfl;omega;intro _ _)|(apply OKx_idxOz;exact rfl;exact rfl;omega;omega)|(apply OKx_idxRz;(conv=>lhs;whnf)<;>exact rfl;(with_reducible assumption);exact rfl;omega;omega;intro _ _)|(apply OKx_fldO;exact rfl;exact rfl)|(apply OKx_fldR;(conv=>lhs;whnf)<;>exact rfl;(with_reducible assumption); decide;intro _ _)|(apply OKx_inc;exact rfl;exact rfl;omega)|(apply OKx_addN;exact rfl;exact rfl;omega)|(apply OKx_add;exact rfl;exact rfl;omega;omega)|(apply OKx_boxA;exact rfl;intro _)|(apply OKx_ldBA;exact rfl;(first | exact at0|exact at1|exact at2|exact at3|exact at4|exact at5|exact at6|exact at7);exact rfl)|(apply OKx_ldRA;(conv=>lhs;whnf)<;>exact rfl;(with_reducible assumption))|(apply OKx_slit1;(conv=>lhs;whnf)<;>exact rfl;exact rfl;intro _))
    refine ⟨by (repeat' (first | refine agree_upd rfl ?_ | exact agree_over | exact agree_refl _ _ | refine agree_over2 rfl ?_)), m - 1, _, by omega, Ent.pick [1, 2] rfl, ?_⟩
    exact ⟨k + 1, n + 1, _, c5, by omega, by rw [hs, List.length_append, hn]; rfl, rfl, fun _ => ⟨_, rfl⟩, rfl, by rw [hs]; rfl⟩
  · rw [if_neg hz, List.append_nil] at hs
    repeat' (first|(apply OK_seq)|(apply thenQ_n)|(apply OK_region)|(apply OKx_gc 73;exact rfl; refine OKx_callV (f := 73) (v := .bool false) rfl rfl rfl (fun w1 hp => by have := rts1_sat _ _ w1 (hrk.below hp.below); rwa [decide_eq_false hz] at this) ?_)|(apply OKx_nilK)|(apply OK_block)|(apply blockQ_n)|(apply blockQ_s)|(apply thenQ_e)|(apply blockQ_e;exact rfl)|(apply thenQ_r)|(apply blockQ_r)|(apply OK_condT;exact rfl)|(apply OK_condF;exact rfl)|(apply OK_skip)|(apply OK_exit)|(apply OK_ret)|(apply OKx_move;(conv=>lhs;whnf)<;>exact rfl)|(apply OKx_assign;(conv=>lhs;whnf)<;>exact rfl)|(apply OKx_ldB;exact rfl;(first | exact at0|exact at1|exact at2|exact at3|exact at4|exact at5|exact at6|exact at7);exact rfl)|(apply OKx_ldR;(conv=>lhs;whnf)<;>exact rfl;(with_reducible assumption))|(apply OKx_len;exact rfl)|(apply OKx_lenR;(conv=>lhs;whnf)<;>exact rfl;(with_reducible assumption))|(apply OKx_lenR2;(conv=>lhs;whnf)<;>exact rfl;(with_reducible assumption))|(apply OKx_lenO;(conv=>lhs;whnf)<;>exact rfl;(first | exact at0|exact at1|exact at2|exact at3|exact at4|exact at5|exact at6|exact at7))|(apply OKx_lss;exact rfl;exact rfl;all_goals (intro _; try (exfalso;omega)))|(apply OKx_neq;exact rfl;exact rfl;all_goals (intro _; try (exfalso;omega)))|(apply OKx_idxO;exact rfl;exact rfl;omega)|(apply OKx_idxR;(conv=>lhs;whnf)<;>exact rfl;(with_reducible assumption);exact rfl;omega;intro _ _)|(apply OKx_idxOz;exact rfl;exact rfl;omega;omega)|(apply OKx_idxRz;(conv=>lhs;whnf)<;>exact rfl;(with_reducible assumption);exact rfl;omega;omega;intro _ _)|(apply OKx_fldO;exact rfl;exact rfl)|(apply OKx_fldR;(conv=>lhs;whnf)<;>exact rfl;(with_reducible assumption); decide;intro _ _)|(apply OKx_inc;exact rfl;exact rfl;omega)|(apply OKx_addN;exact rfl;exact rfl;omega)|(apply OKx_add;exact rfl;exact rfl;omega;omega)|(apply OKx_boxA;exact rfl;intro _)|(apply OKx_ldBA;exact rfl;(first | exact at0|exact at1|exact at2|exact at3|exact at4|exact at5|exact at6|exact at7);exact rfl)|(apply OKx_ldRA;(conv=>lhs;whnf)<;>exact rfl;(with_reducible assumption))|(apply OKx_slit1;(conv=>lhs;whnf)<;>exact rfl;exact rfl;intro _))
    refine ⟨by (repeat' (first | refine agree_upd rfl ?_ | exact agree_over | exact agree_refl _ _ | refine agree_over2 rfl ?_)), m - 1, _, by omega, Ent.refl _ _, ?_⟩
    exact ⟨k + 1, n, a, c, by omega, by rw [hs]; exact hn, rfl, ha, rfl, by rw [hs]⟩
set_option maxRecDepth 100000 in
set_option maxHeartbeats 4000000 in
theorem Roots_sat (v : Value) (s : Stem) (w : World) (h : Stm w v s) : Sat Tryz.prog 31 [v] w (RtsR s) := by
  have hst := h
  obtain ⟨nv, ev, pv, rfl, _, _, _⟩ := h
  refine SatL.of 8 [2, 3] Tryz.func31 (by kernel_rfl) (by kernel_rfl) rfl rfl rfl rfl ?_
  repeat' (first|(apply OK_seq)|(apply thenQ_n)|(apply OK_region)|(apply OKx_gc 71;exact rfl; refine OKx_call (f := 71) rfl rfl (fun w1 hp => nodesR_sat _ s w1 (hst.below hp.below)) ?_; rintro _ _ (⟨h1, rfl, rfl⟩ | ⟨h1, a, c, rfl, ha, rfl⟩))|(apply OKx_nilK)|(apply OK_block)|(apply blockQ_n)|(apply blockQ_s)|(apply thenQ_e)|(apply blockQ_e;exact rfl)|(apply thenQ_r)|(apply blockQ_r)|(apply OK_condT;exact rfl)|(apply OK_condF;exact rfl)|(apply OK_skip)|(apply OK_exit)|(apply OK_ret)|(apply OKx_assign;(conv=>lhs;whnf)<;>exact rfl)|(apply OKx_extract;exact rfl;(conv=>lhs;whnf)<;>exact rfl)|(apply OKx_boxA;exact rfl;intro _)|(apply OKx_ldBA;exact rfl;(first | exact at0|exact at1|exact at2|exact at3|exact at4|exact at5|exact at6|exact at7);exact rfl)|(apply OKx_ldRA;(conv=>lhs;whnf)<;>exact rfl;(with_reducible assumption)))
  · refine bodyQ_r2 (by ((conv=>lhs;whnf)<;>exact rfl)) (by ((conv=>lhs;whnf)<;>exact rfl)) ?_
    exact ⟨_, Ent.nil, .inl ⟨h1, rfl, rfl⟩⟩
  · refine bodyQ_r2 (by ((conv=>lhs;whnf)<;>exact rfl)) (by ((conv=>lhs;whnf)<;>exact rfl)) ?_
    exact ⟨_, Ent.pick [0] rfl, .inr ⟨h1, a, c, rfl, ha, rfl⟩⟩
end Go.Proofs.YtdigdmnnjbndlaaGreatDoor
namespace Go.Proofs.YtdigdmnnjbndlaaGreatDoor
open Go.RowKit
def CV (l : List (Int × Int)) (j : Nat) : Nat → Value
  | 0 => .int .i64 (l.getD j (0, 0)).1
  | _ => .int .i64 (l.getD j (0, 0)).2
def Chs (w : World) (v : Value) (l : List (Int × Int)) : Prop := Sl2 w v 2 l.length (CV l)
theorem Chs.below {w w' : World} {v : Value} {l : List (Int × Int)} (h : Chs w v l) (hb : Below w.heap.size w w') : Chs w' v l := Sl2.below h hb
end Go.Proofs.YtdigdmnnjbndlaaGreatDoor
namespace Go.Proofs.YtdigdmnnjbndlaaGreatDoor
open Go.RowKit
theorem anyD_hit {α : Type} (xs : List α) (d : α) (p : α → Bool) (k : Nat) (h : k < xs.length) (e : p (xs.getD k d) = true) : xs.any p = true := by
  rw [getD_lt _ _ _ h] at e
  exact List.any_eq_true.2 ⟨_, List.getElem_mem h, e⟩
theorem anyD_none {α : Type} (xs : List α) (d : α) (p : α → Bool) (h : ∀ k, k < xs.length → p (xs.getD k d) = false) : xs.any p = false := by
  rw [List.any_eq_false]
  intro x hx
  obtain ⟨k, hk, rfl⟩ := List.getElem_of_mem hx
  have := h k hk
  rw [getD_lt _ _ _ hk] at this
  rw [this]; simp
end Go.Proofs.YtdigdmnnjbndlaaGreatDoor
namespace Go.Proofs.YtdigdmnnjbndlaaGreatDoor
open Go.RowKit
theorem Pt.below {w w' : World} {p : Value} {sz : Nat} {f : Nat → Value} (h : Pt w p sz f) (hb : Below w.heap.size w w') : Pt w' p sz f := by
  obtain ⟨b, o, rfl, hc⟩ := h
  exact ⟨b, o, rfl, fun j hj => (hb.cell (World.block_lt_of_cell? w _ (hc j hj))).trans (hc j hj)⟩
end Go.Proofs.YtdigdmnnjbndlaaGreatDoor
namespace Go.Proofs.YtdigdmnnjbndlaaGreatDoor
open Go.RowKit
def expL (own : List Int) (i : Nat) : List Int → List Int
  | [] => []
  | x :: xs => (if x = (i : Int) then own else [x]) ++ expL own i xs
theorem expL_snoc (own : List Int) (i : Nat) (x : Int) : ∀ xs, expL own i (xs ++ [x]) = expL own i xs ++ if x = (i : Int) then own else [x]
  | [] => by simp [expL]
  | y :: ys => by rw [List.cons_append, expL, expL, expL_snoc own i x ys, List.append_assoc]
theorem expL_step (own : List Int) (i : Nat) (xs : List Int) (j : Nat) (h : j < xs.length) : expL own i (xs.take (j + 1)) = expL own i (xs.take j) ++ if xs.getD j 0 = (i : Int) then own else [xs.getD j 0] := by
  rw [getD_lt _ _ _ h, ← expL_snoc, List.take_append_getElem h]
theorem expL_len (own : List Int) (i : Nat) (ho : own.length ≤ 64) : ∀ xs : List Int, (expL own i xs).length ≤ 64 * xs.length
  | [] => by simp [expL]
  | x :: xs => by
    have := expL_len own i ho xs
    rw [expL, List.length_append, List.length_cons]
    split
    · omega
    · simp only [List.length_singleton];omega
theorem expL_mem (own : List Int) (i : Nat) (y : Int) : ∀ xs : List Int, y ∈ expL own i xs ↔ (y ∈ xs ∧ y ≠ (i : Int)) ∨ ((i : Int) ∈ xs ∧ y ∈ own)
  | [] => by simp [expL]
  | x :: xs => by
    rw [expL, List.mem_append, expL_mem own i y xs]
    by_cases h : x = (i : Int)
    · subst h
      rw [if_pos rfl]
      simp only [List.mem_cons, true_or, true_and]
      constructor
      · rintro (h | ⟨h1, h2⟩ | ⟨_, h⟩)
        · exact .inr h
        · exact .inl ⟨.inr h1, h2⟩
        · exact .inr h
      · rintro (⟨rfl | h1, h2⟩ | h)
        · exact absurd rfl h2
        · exact .inr (.inl ⟨h1, h2⟩)
        · exact .inl h
    · rw [if_neg h]
      simp only [List.mem_cons, List.not_mem_nil, or_false]
      constructor
      · rintro (rfl | ⟨h1, h2⟩ | ⟨h1, h2⟩)
        · exact .inl ⟨.inl rfl, h⟩
        · exact .inl ⟨.inr h1, h2⟩
        · exact .inr ⟨.inr h1, h2⟩
      · rintro (⟨rfl | h1, h2⟩ | ⟨h1 | h1, h2⟩)
        · exact .inl rfl
        · exact .inr (.inl ⟨h1, h2⟩)
        · exact absurd h1.symm h
        · exact .inr (.inr ⟨h1, h2⟩)
def decI (i : Nat) (x : Int) : Int := if (i : Int) < x then x - 1 else x
def decK (i : Nat) (ys : List Int) (j : Nat) : List Int := (ys.take j).map (decI i) ++ ys.drop j
theorem decK_len (i : Nat) (ys : List Int) (j : Nat) : (decK i ys j).length = ys.length := by
  unfold decK
  rw [List.length_append, List.length_map, List.length_take, List.length_drop]
  omega
theorem decK_zero (i : Nat) (ys : List Int) : decK i ys 0 = ys := by simp [decK]
theorem decK_all (i : Nat) (ys : List Int) : decK i ys ys.length = ys.map (decI i) := by simp [decK]
theorem decK_at (i : Nat) (ys : List Int) (j : Nat) (h : j < ys.length) : (decK i ys j).getD j 0 = ys.getD j 0 := by
  unfold decK
  rw [List.getD_eq_getElem?_getD, List.getElem?_append_right (by simp;omega), List.getElem?_drop, ← List.getD_eq_getElem?_getD]
  congr 1
  simp;omega
theorem decK_step (i : Nat) (ys : List Int) (j : Nat) (h : j < ys.length) : decK i ys (j + 1) = (decK i ys j).set j (decI i (ys.getD j 0)) := by
  have e1 : (ys.take j).map (decI i) ++ ys.drop j = (ys.take j).map (decI i) ++ ys[j] :: ys.drop (j + 1) := by rw [← List.drop_eq_getElem_cons h]
  have hl : ((ys.take j).map (decI i)).length = j := by simp;omega
  unfold decK
  rw [e1, List.set_append_right _ _ (by omega), hl, Nat.sub_self, List.set_cons_zero, getD_lt _ _ _ h, ← List.take_append_getElem h, List.map_append, List.append_assoc]
  rfl
def remC (s : Stem) (i k : Nat) : List Int := Lib.compact (srtL (expL (s.par.getD i []) i (s.par.getD k [])))
def remL (s : Stem) (i k : Nat) : List Int := (remC s i k).map (decI i)
def kpt (i k : Nat) : List Nat := (List.range k).filter (fun j => decide (j ≠ i))
theorem kpt_step (i k : Nat) : kpt i (k + 1) = kpt i k ++ if k = i then [] else [k] := by
  unfold kpt
  rw [List.range_succ, List.filter_append]
  congr 1
  by_cases h : k = i
  · rw [if_pos h, List.filter_cons_of_neg (by simpa using h)]; rfl
  · rw [if_neg h, List.filter_cons_of_pos (by simpa using h)]; rfl
theorem kpt_len (i k : Nat) : (kpt i k).length ≤ k := Nat.le_trans (List.length_filter_le _ _) (by simp)
def remS (s : Stem) (i : Nat) : Stem := ⟨(kpt i s.names.length).map (fun k => s.names.getD k ByteArray.empty), (kpt i s.names.length).map (fun k => s.ext.getD k false), (kpt i s.names.length).map (remL s i)⟩
end Go.Proofs.YtdigdmnnjbndlaaGreatDoor
namespace Go.Proofs.YtdigdmnnjbndlaaGreatDoor
theorem okPar_getD {par : List (List Int)} (h : okPar par) (k : Nat) : ∀ p ∈ par.getD k [], 0 ≤ p ∧ p < k := fun p hp => by
  by_cases hk : k < par.length
  · rw [getD_lt _ _ _ hk] at hp; exact h k hk p hp
  · rw [getD_ge _ _ _ (by omega)] at hp; simp at hp
end Go.Proofs.YtdigdmnnjbndlaaGreatDoor
