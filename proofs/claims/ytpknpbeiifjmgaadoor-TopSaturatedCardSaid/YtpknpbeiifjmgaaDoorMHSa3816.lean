/-
  Part 16 of the proof: Tr31. No statement of the seat is proved here.
-/
import Derived.Test.YtpknpbeiifjmgaaDoorMHSa3815
namespace Go.Proofs.YtpknpbeiifjmgaaDoor
open Go.RowKit Go.Maps
set_option maxRecDepth 100000 in
set_option maxHeartbeats 4000000 in
theorem below_sat (a : Option Addr) (w : World) : Sat Tryd.prog 35 [.pointer a] w (fun u L => ∃ g, u = .func (.func 65) #[] #[.pointer (some ⟨g, 0, none⟩)] ∧ L = [.box 53 g [.pointer a]]) := by
  refine SatL.of 4 [2] Tryd.func35 (by kernel_rfl) (by kernel_rfl) rfl rfl rfl rfl ?_
  repeat' (first|(apply OK_seq)|(apply thenQ_n)|(apply OK_region)|(apply OKx_nilK)|(apply OK_block)|(apply blockQ_n)|(apply blockQ_s)|(apply thenQ_e)|(apply blockQ_e;exact rfl)|(apply thenQ_r)|(apply blockQ_r)|(apply OK_condT;exact rfl)|(apply OK_condF;exact rfl)|(apply OK_skip)|(apply OK_exit)|(apply OK_ret)|(apply OKx_assign;(conv=>lhs;whnf)<;>exact rfl)|(apply OKx_box1;(conv=>lhs;whnf)<;>exact rfl;exact rfl;intro _)|(apply OKx_func;exact rfl;exact rfl))
  rename_i g
  refine bodyQ_r1 (by ((conv=>lhs;whnf)<;>exact rfl)) ?_
  exact ⟨_, Ent.refl _ _, g, rfl, rfl⟩
set_option maxRecDepth 100000 in
set_option maxHeartbeats 4000000 in
theorem below1_sat (y gx : Nat) (root : Value) (ys : List (Value × Value)) (w0 : World) (J Br : List Res) (JP : List (Value × Value) → List Res → Prop) (hY : Yields w0 root (.pointer none) ys) (hJ : JP [] J)
    (hy : ∀ gy ge x q pre J, JP pre J → (pre ++ [(x, q)]) <+: ys → SatY Tryd.prog y [x, q] w0 ((.box 53 gx [root] :: (J ++ zY y gy ge)) ++ Br) (fun u L => u = .bool true ∧ ∃ J', JP (pre ++ [(x, q)]) J' ∧ L = (.box 53 gx [root] :: (J' ++ zY y gy ge)) ++ Br)) :
    SatL Tryd.prog 65 [.func (.yield y) #[] #[], .pointer (some ⟨gx, 0, none⟩)] w0 (.box 53 gx [root] :: (J ++ Br)) (fun _ L => ∃ J', JP ys J' ∧ L = J' ++ Br) := by
  generalize hR : (fun (_ : Value) (L : List Res) => ∃ J', JP ys J' ∧ L = J' ++ Br) = R
  refine SatL.of 8 [] Tryd.func65 (by kernel_rfl) (by kernel_rfl) rfl rfl rfl rfl ?_
  repeat' (first|(apply OK_seq)|(apply thenQ_n)|(apply OK_region)|(apply OKx_nilK)|(apply OK_block)|(apply blockQ_n)|(apply blockQ_s)|(apply thenQ_e)|(apply blockQ_e;exact rfl)|(apply thenQ_r)|(apply blockQ_r)|(apply OK_condT;exact rfl)|(apply OK_condF;exact rfl)|(apply OK_skip)|(apply OK_exit)|(apply OK_ret)|(apply OKx_ldB;exact rfl;(first | exact at0|exact at1|exact at2|exact at3|exact at4|exact at5|exact at6|exact at7);exact rfl)|(apply OKx_ldR;(conv=>lhs;whnf)<;>exact rfl;(with_reducible assumption))|(apply OKx_alloc1;intro _)|(apply OKx_stB;exact rfl;(conv=>lhs;whnf)<;>exact rfl;exact rfl;exact rfl;(first | exact at0|exact at1|exact at2|exact at3|exact at4|exact at5|exact at6|exact at7);exact rfl;exact rfl;exact rfl)|(apply OKx_box1;(conv=>lhs;whnf)<;>exact rfl;exact rfl;intro _)|(apply OKx_func;exact rfl;exact rfl))
  rename_i gy ge
  have hc := hY y gy ge ys Br (fun l J2 => ∃ J, JP l J ∧ J2 = .box 53 gx [root] :: J) (fun x q pre J2 hJ2 hp => by
    obtain ⟨J, hJ, rfl⟩ := hJ2
    refine (hy gy ge x q pre J hJ hp).mono ?_
    rintro u L ⟨rfl, J', hJ', rfl⟩
    exact ⟨rfl, _, ⟨J', hJ', rfl⟩, rfl⟩) [] (.box 53 gx [root] :: J) ⟨J, hJ, rfl⟩ (List.prefix_refl _)
  repeat' (first|(apply OK_seq)|(apply thenQ_n)|(apply OK_region)|(apply OKx_gc 66;exact rfl; refine OKx_callL (f := 66) rfl rfl (hc.pre (Ent.pickT [_, _, _] (J ++ Br) [1, 0, 2] rfl)) ?_; rintro _ _ ⟨rfl, J2, ⟨J3, hJ3, rfl⟩, rfl⟩)|(apply OKx_nilK)|(apply OK_block)|(apply blockQ_n)|(apply blockQ_s)|(apply thenQ_e)|(apply blockQ_e;exact rfl)|(apply thenQ_r)|(apply blockQ_r)|(apply OK_condT;exact rfl)|(apply OK_condF;exact rfl)|(apply OK_skip)|(apply OK_exit)|(apply OK_ret)|(apply OKx_ldB;exact rfl;(first | exact at0|exact at1|exact at2|exact at3|exact at4|exact at5|exact at6|exact at7);exact rfl)|(apply OKx_ldR;(conv=>lhs;whnf)<;>exact rfl;(with_reducible assumption))|(apply OKx_alloc1;intro _)|(apply OKx_stB;exact rfl;(conv=>lhs;whnf)<;>exact rfl;exact rfl;exact rfl;(first | exact at0|exact at1|exact at2|exact at3|exact at4|exact at5|exact at6|exact at7);exact rfl;exact rfl;exact rfl)|(apply OKx_box1;(conv=>lhs;whnf)<;>exact rfl;exact rfl;intro _)|(apply OKx_func;exact rfl;exact rfl))
  first | refine bodyQ_r0 ?_ | refine bodyQ_n0 ?_
  subst hR
  exact ⟨_, Ent.sub ((List.sublist_cons_self _ _).trans (List.sublist_append_right _ _)), J3, hJ3, rfl⟩
def NdIs (w : World) (g : Nat) (nm : ByteArray) (kv : Value) : Prop := w.heap[g]? = some (.cells #[.string nm, kv, .int .i64 0] 56 (0, 0))
theorem NdIs.below {w w1 : World} {g : Nat} {nm : ByteArray} {kv : Value} (h : NdIs w g nm kv) (hb : Below w.heap.size w w1) : NdIs w1 g nm kv := by
  unfold NdIs at *
  rw [hb.block g (Array.getElem?_eq_some_iff.1 h).1]
  exact h
theorem NdIs.pt0 {w : World} {g : Nat} {nm : ByteArray} {kv : Value} (h : NdIs w g nm kv) : Pt1 w (.pointer (some ⟨g, 0, none⟩)) (.string nm) := ⟨g, 0, rfl, by rw [cell_of_row w g 0 _ _ (0, 0) h]; rfl⟩
theorem NdIs.pt1 {w : World} {g : Nat} {nm : ByteArray} {kv : Value} (h : NdIs w g nm kv) : Pt1 w (.pointer (some ⟨g, 1, none⟩)) kv := ⟨g, 1, rfl, by rw [cell_of_row w g 1 _ _ (0, 0) h]; rfl⟩
theorem NdIs.ok {w : World} {g : Nat} {nm : ByteArray} {kv : Value} (h : NdIs w g nm kv) : okP w (some g) := ⟨_, _, h⟩
def prV (q : Nat × Option Nat) : Value × Value := (ptV (some q.1), ptV q.2)
def entP (all : List (Nat × Option Nat)) (k : Nat) : List (Option Nat × Value) := (none, .int .i64 (-1)) :: (List.range k).map (fun i => (some (all.getD i (0, none)).1, .int .i64 (i : Int)))
theorem entP_step (all : List (Nat × Option Nat)) (k : Nat) : entP all (k + 1) = entP all k ++ [(some (all.getD k (0, none)).1, .int .i64 (k : Int))] := by
  unfold entP
  rw [List.range_succ, List.map_append]
  rfl
structure TreeAt (w : World) (all : List (Nat × Option Nat)) (par : List Int) (nm : List ByteArray) : Prop where
  lp : par.length = all.length
  ln : nm.length = all.length
  few : all.length ≤ 1000
  node : ∀ k, k < all.length → ∃ kv, NdIs w (all.getD k (0, none)).1 (nm.getD k ByteArray.empty) kv
  upok : ∀ k, k < all.length → okP w (all.getD k (0, none)).2
  fresh : ∀ k, k < all.length → fndP (entP all k) (some (all.getD k (0, none)).1) 0 = none
  up : ∀ k, k < all.length → ∃ c, fndP (entP all (k + 1)) (all.getD k (0, none)).2 0 = some (c, .int .i64 (par.getD k 0))
theorem TreeAt.oks {w : World} {all : List (Nat × Option Nat)} {par : List Int} {nm : List ByteArray} (h : TreeAt w all par nm) (k : Nat) (hk : k ≤ all.length) : ∀ p ∈ entP all k, okP w p.1 := by
  intro p hp
  unfold entP at hp
  rcases List.mem_cons.1 hp with rfl | hp
  · trivial
  · obtain ⟨i, hi, rfl⟩ := List.mem_map.1 hp
    rw [List.mem_range] at hi
    obtain ⟨kv, h1⟩ := h.node i (by omega)
    exact h1.ok
theorem nodeInfo : ∃ j, Tryd.prog.info? 56 = some j ∧ j.size ≠ 0 := by
  have h : (Tryd.prog.info? 56).map (·.size) = some 3 := by kernel_rfl
  cases hj : Tryd.prog.info? 56 with
  | none => rw [hj] at h; cases h
  | some j =>
    rw [hj] at h
    simp only [Option.map_some, Option.some.injEq] at h
    exact ⟨j, rfl, by omega⟩
def trJ (g2 g3 g4 gm : Nat) (all : List (Nat × Option Nat)) (par : List Int) (nm : List ByteArray) (k : Nat) (J : List Res) : Prop :=
  ∃ pa pc na nc, J = [.row 3 1 (.slice pa k pc) k (ints (par.take k)), .row 9 1 (.slice na k nc) k (strs (nm.take k)), .box 41 g3 [.slice pa k pc, .slice na k nc], .box 71 g4 [.map (some gm)], .obj gm (PMIs (entP all k)), .box 41 g2 [.slice none 0 0, .slice none 0 0]]
def trM (g2 g3 g4 gm gx : Nat) (v : Value) (all : List (Nat × Option Nat)) (par : List Int) (nm : List ByteArray) (k : Nat) (Z : List Res) (_ _ : Value) (L : List Res) : Prop :=
  ∃ ga ca gb cb, L = .box 53 gx [v] :: .row 3 1 (.slice (some ⟨ga, 0, none⟩) (k + 1) ca) (k + 1) (ints (par.take k) ++ [.int .i64 (par.getD k 0)]) :: .row 9 1 (.slice (some ⟨gb, 0, none⟩) (k + 1) cb) (k + 1) (strs (nm.take k) ++ [.string (nm.getD k ByteArray.empty)]) ::
    .box 41 g3 [.slice (some ⟨ga, 0, none⟩) (k + 1) ca, .slice (some ⟨gb, 0, none⟩) (k + 1) cb] :: .box 71 g4 [.map (some gm)] :: .obj gm (PMIs (entP all (k + 1))) :: .box 41 g2 [.slice none 0 0, .slice none 0 0] :: Z
structure Tg where
  (y gy ge : Nat)
  (q : Value × Value)
  (pre : List (Value × Value))
  (J : List Res)
theorem prefix_at {α : Type} {l : List α} {pre : List α} {x : α} (h : (pre ++ [x]) <+: l) : pre.length < l.length ∧ l[pre.length]? = some x ∧ pre <+: l := by
  obtain ⟨t, rfl⟩ := h
  refine ⟨by simp, by simp, ⟨[x] ++ t, by simp⟩⟩
theorem bodyM_d1 {P : Program} {n : Nat} {w0 : World} {F : Fm} {L : List Res} {ex : Exit} {r1 : ResultVar} {v1 : Value} {R : Value → List Res → Prop} (D : Nat) (hx : ex = .normal ∨ ex = .ret) (h1 : resIs P n F L r1 v1) (h : ∃ L', Ent w0 L L' ∧ R v1 L') (hm : marksV (F none) = [{ target := .collected D, args := #[] }]) : bodyM P n w0 [r1] R ex F (.mark D :: L) := by
  unfold bodyM
  obtain ⟨L', e, hR⟩ := h
  rcases hx with rfl | rfl <;> exact ⟨[D], [v1], L, L', hm, Ent.refl _ _, ⟨h1, trivial⟩, e, hR⟩
set_option maxRecDepth 100000 in
set_option maxHeartbeats 4000000 in
theorem tree_sat (a : Option Addr) (all : List (Nat × Option Nat)) (par : List Int) (nm : List ByteArray) (w : World) (h : TreeAt w all par nm) (hY : Yields w (.pointer a) (.pointer none) (all.map prV)) :
    Sat Tryd.prog 22 [.pointer a] w (fun u L => ∃ pa pc na nc, u = .agg #[.slice pa all.length pc, .slice na all.length nc] ∧ L = [.row 3 1 (.slice pa all.length pc) all.length (ints par), .row 9 1 (.slice na all.length nc) all.length (strs nm)]) := by
  obtain ⟨jn, hjn, hjs⟩ := nodeInfo
  refine SatL.ofM 36 [.cell 2 41] Tryd.func22 (by kernel_rfl) (by kernel_rfl) rfl rfl rfl ?_
  repeat' (first|(apply OK_seq)|(apply thenQ_n)|(apply OK_region)|(refine OKx_mkMapP ?_; intro gm)|(refine OKx_insP (q := none) (v := .int .i64 (-1)) 0 rfl rfl rfl rfl Tryd.underlying71 Tryd.underlying53 hjn hjs trivial (fun p hp => by cases hp) rfl ?_; simp only [List.set_cons_zero, List.nil_append])|(apply OKx_gc 35;exact rfl; refine OKx_call (f := 35) rfl rfl (fun w1 hp => below_sat a w1) ?_; rintro _ _ ⟨gx, rfl, rfl⟩; rw [List.cons_append, List.nil_append])|(refine OK_rid 7 ?_; refine OK_mix [0, 1, 7, 8, 9, 10, 11, 12] [2, 3, 4] [] [5, 6, 13, 14, 15, 16, 17, 18] [] (id := 7) (by kernel_rfl) (by kernel_rfl) rfl (Ent.nil) (by ((try simp only [pickO, nthO, List.cons_append, List.nil_append]) <;> exact rfl)) (by ((try simp only [pickO, nthO, List.cons_append, List.nil_append]) <;> exact rfl)) (by ((try simp only [pickO]) <;> exact rfl)) (by ((try simp only [pickO, nthO, List.cons_append, List.nil_append]) <;> exact rfl)) ?_)|(apply OKx_nilK)|(apply OK_block)|(apply blockQ_n)|(apply blockQ_s)|(apply thenQ_e)|(apply blockQ_e;exact rfl)|(apply thenQ_r)|(apply blockQ_r)|(apply OK_condT;exact rfl)|(apply OK_condF;exact rfl)|(apply OK_skip)|(apply OK_exit)|(apply OK_ret)|(apply OKx_move;(conv=>lhs;whnf)<;>exact rfl)|(apply OKx_assign;(conv=>lhs;whnf)<;>exact rfl)|(apply OKx_ldB;exact rfl;(first | exact at0|exact at1|exact at2|exact at3|exact at4|exact at5|exact at6|exact at7);exact rfl)|(apply OKx_ldR;(conv=>lhs;whnf)<;>exact rfl;(with_reducible assumption))|(apply OKx_len;exact rfl)|(apply OKx_lenR;(conv=>lhs;whnf)<;>exact rfl;(with_reducible assumption))|(apply OKx_lenR2;(conv=>lhs;whnf)<;>exact rfl;(with_reducible assumption))|(apply OKx_lenO;(conv=>lhs;whnf)<;>exact rfl;(first | exact at0|exact at1|exact at2|exact at3|exact at4|exact at5|exact at6|exact at7))|(apply OKx_fldO;exact rfl;exact rfl)|(apply OKx_fldR;(conv=>lhs;whnf)<;>exact rfl;(with_reducible assumption); decide;intro _ _)|(apply OKx_alloc1;intro _)|(apply OKx_allocA;intro _)|(apply OKx_ldBA;exact rfl;(first | exact at0|exact at1|exact at2|exact at3|exact at4|exact at5|exact at6|exact at7);exact rfl)|(apply OKx_ldRA;(conv=>lhs;whnf)<;>exact rfl;(with_reducible assumption))|(apply OKx_stB;exact rfl;(conv=>lhs;whnf)<;>exact rfl;exact rfl;exact rfl;(first | exact at0|exact at1|exact at2|exact at3|exact at4|exact at5|exact at6|exact at7);exact rfl;exact rfl;exact rfl)|(apply OKx_slit1;(conv=>lhs;whnf)<;>exact rfl;exact rfl;intro _)|(apply OKx_stBA; kernel_rfl;exact rfl;exact rfl;exact rfl;(first | exact at0|exact at1|exact at2|exact at3|exact at4|exact at5|exact at6|exact at7);exact rfl;exact rfl;exact rfl)|(apply OKx_nilCheck;exact rfl))
  rename_i g2 g3 g4
  simp only [List.set_cons_zero]
  refine OK_ent (L' := .box 53 gx [.pointer a] :: [.row 3 1 (.slice none 0 0) 0 (ints (par.take 0)), .row 9 1 (.slice none 0 0) 0 (strs (nm.take 0)), .box 41 g3 [.slice none 0 0, .slice none 0 0], .box 71 g4 [.map (some gm)], .obj gm (PMIs (entP all 0)), .box 41 g2 [.slice none 0 0, .slice none 0 0]])
    (((Ent.mk fun w1 hp => hp.nil 9 1).trans (Ent.mk fun w1 hp => hp.nil 3 1)).trans (Ent.pick [2, 0, 1, 5, 3, 4, 6] rfl)) ?_
  obtain ⟨JP, hJP⟩ : ∃ JP : List (Value × Value) → List Res → Prop, ∀ pre J, JP pre J ↔ (pre <+: all.map prV ∧ trJ g2 g3 g4 gm all par nm pre.length J) := ⟨_, fun _ _ => Iff.rfl⟩
  refine OK_rangeFunc (σ := Tg) (fun x => .box 53 gx [.pointer a] :: (x.J ++ zY x.y x.gy x.ge)) (ps := [11, 12]) (gf := 65) (lb := [.pointer (some ⟨gx, 0, none⟩)]) (by ((conv=>lhs;whnf)<;>exact rfl)) ⟨_, _, Tryd.func65, by kernel_rfl, rfl⟩
    (fun x av => av = [x.q.1, x.q.2] ∧ JP x.pre x.J ∧ (x.pre ++ [x.q]) <+: all.map prV)
    (fun x _ X' => ∃ J', JP (x.pre ++ [x.q]) J' ∧ X' = .box 53 gx [.pointer a] :: (J' ++ zY x.y x.gy x.ge))
    (fun _ _ _ _ => False) (fun X' => JP (all.map prV) X') (fun _ _ => False) ?_ ?_ ?_ ?_ ?_
  · rintro x av ⟨rfl, _⟩
    rfl
  · intro y Br Bd hYy
    refine (below1_sat y gx (.pointer a) (all.map prV) w _ Br JP hY ((hJP _ _).2 ⟨List.nil_prefix, none, 0, none, 0, rfl⟩) ?_).mono ?_
    · intro gy ge x q pre J hJ hp
      refine (hYy ⟨y, gy, ge, (x, q), pre, J⟩ [x, q] ⟨rfl, hJ, hp⟩).mono ?_
      rintro u L' (⟨rfl, X', ⟨J', hJ', rfl⟩, rfl⟩ | ⟨_, _, _, hF, _⟩)
      · exact ⟨rfl, J', hJ', rfl⟩
      · exact hF.elim
    · rintro u L' ⟨J', hJ', rfl⟩
      exact .inl ⟨J', hJ', rfl⟩
  · rintro ro B B' ⟨y, gy, ge, q, pre, J⟩ av ⟨rfl, hJ, hpre⟩
    dsimp only at *
    obtain ⟨hpr, pa, pc, na, nc, rfl⟩ := (hJP _ _).1 hJ
    obtain ⟨hk, hat, _⟩ := prefix_at hpre
    rw [List.length_map] at hk
    have hpl : (pre ++ [q]).length = pre.length + 1 := by simp
    generalize hkk : pre.length = k at *
    have hq : q = prV (all.getD k (0, none)) := by
      rw [List.getElem?_map, List.getElem?_eq_getElem hk] at hat
      rw [getD_lt _ _ _ hk]
      exact (Option.some.inj hat).symm
    obtain ⟨kv, hnd⟩ := h.node k hk
    have hup := h.upok k hk
    have hfr := h.fresh k hk
    obtain ⟨c, hfd⟩ := h.up k hk
    have hoks := h.oks k (by omega)
    have hoks1 := h.oks (k + 1) (by omega)
    have hes := entP_step all k
    have hfew := h.few
    have htp : par.take (k + 1) = par.take k ++ [par.getD k 0] := take_at par k (by rw [h.lp]; exact hk)
    have htn : nm.take (k + 1) = nm.take k ++ [nm.getD k ByteArray.empty] := by
      have hkn : k < nm.length := by rw [h.ln]; exact hk
      rw [List.take_succ_eq_append_getElem hkn, getD_lt _ _ _ hkn]
    generalize all.getD k (0, none) = xx at *
    obtain ⟨x1, x2⟩ := xx
    subst hq
    have hp0 := hnd.pt0
    have hok1 := hnd.ok
    dsimp only [prV] at *
    simp only [zY, List.cons_append, List.nil_append]
    repeat' (first|(apply OKr_seq)|(apply thenQ_n)|(apply OKr_region;exact rfl)|(refine OKr_rid 7 ?_; refine OKr_mix [0, 1, 7, 8, 9, 10, 11, 12] [2, 3, 4] [] [5, 6, 13, 14, 15, 16, 17, 18] [] (id := 7) (by kernel_rfl) (by kernel_rfl) rfl (Ent.nil) (by ((try simp only [pickO, nthO, List.cons_append, List.nil_append]) <;> exact rfl)) (by ((try simp only [pickO, nthO, List.cons_append, List.nil_append]) <;> exact rfl)) (by ((try simp only [pickO]) <;> exact rfl)) (by ((try simp only [pickO, nthO, List.cons_append, List.nil_append]) <;> exact rfl)) ?_)|(apply OKx_nilK)|(apply OKr_block)|(apply blockQ_n)|(apply blockQ_s)|(apply thenQ_e)|(apply blockQ_e;exact rfl)|(apply thenQ_r)|(apply blockQ_r)|(apply OKr_condT;exact rfl)|(apply OKr_condF;exact rfl)|(apply OKr_skip)|(apply OKr_exit)|(apply OKr_ret)|(apply OKx_move;(conv=>lhs;whnf)<;>exact rfl)|(apply OKx_assign;(conv=>lhs;whnf)<;>exact rfl)|(apply OKx_ldB;exact rfl;(first | exact at0|exact at1|exact at2|exact at3|exact at4|exact at5|exact at6|exact at7);exact rfl)|(apply OKx_ldR;(conv=>lhs;whnf)<;>exact rfl;(with_reducible assumption))|(apply OKx_len;exact rfl)|(apply OKx_lenR;(conv=>lhs;whnf)<;>exact rfl;(with_reducible assumption))|(apply OKx_lenR2;(conv=>lhs;whnf)<;>exact rfl;(with_reducible assumption))|(apply OKx_lenO;(conv=>lhs;whnf)<;>exact rfl;(first | exact at0|exact at1|exact at2|exact at3|exact at4|exact at5|exact at6|exact at7))|(apply OKx_fldO;exact rfl;exact rfl)|(apply OKx_fldR;(conv=>lhs;whnf)<;>exact rfl;(with_reducible assumption); decide;intro _ _)|(apply OKx_alloc1;intro _)|(apply OKx_allocA;intro _)|(apply OKx_ldBA;exact rfl;(first | exact at0|exact at1|exact at2|exact at3|exact at4|exact at5|exact at6|exact at7);exact rfl)|(apply OKx_ldRA;(conv=>lhs;whnf)<;>exact rfl;(with_reducible assumption))|(apply OKx_stB;exact rfl;(conv=>lhs;whnf)<;>exact rfl;exact rfl;exact rfl;(first | exact at0|exact at1|exact at2|exact at3|exact at4|exact at5|exact at6|exact at7);exact rfl;exact rfl;exact rfl)|(apply OKx_slit1;(conv=>lhs;whnf)<;>exact rfl;exact rfl;intro _)|(apply OKx_stBA; kernel_rfl;exact rfl;exact rfl;exact rfl;(first | exact at0|exact at1|exact at2|exact at3|exact at4|exact at5|exact at6|exact at7);exact rfl;exact rfl;exact rfl)|(apply OKx_nilCheck;exact rfl))
    refine ⟨[_, _, _, _, _, _, _, _, _], Ent.refl _ _, ?_⟩
    simp only [List.cons_append, List.nil_append]
    repeat' (first|(apply OKr_seq)|(apply thenQ_n)|(apply OKr_region;exact rfl)|(refine OKx_setP (q := some x1) (v := .int .i64 (k : Int)) 5 rfl rfl rfl rfl Tryd.underlying71 Tryd.underlying53 hjn hjs hok1 hoks hfr ?_; simp only [List.set_cons_zero, List.set_cons_succ]; rw [← hes])|(refine OKx_lookP (q := x2) 2 rfl rfl rfl Tryd.underlying71 Tryd.underlying53 hjn hjs hup hoks1 hfd ?_)|(refine OKx_fldO (o' := 0) rfl rfl ?_)|(refine OKx_fldO (o' := 1) rfl rfl ?_)|(apply OKx_gb; refine OKx_append1 2 0 rfl rfl rfl rfl rfl (by omega) (by omega) ?_; intro gA cA)|(apply OKx_gb; refine OKx_append1 3 0 rfl rfl rfl rfl rfl (by omega) (by omega) ?_; intro gA cA)|(apply OKx_gb; refine OKx_append1 3 1 rfl rfl rfl rfl rfl (by omega) (by omega) ?_; intro gA cA)|(apply OKx_gb; refine OKx_append1 4 0 rfl rfl rfl rfl rfl (by omega) (by omega) ?_; intro gA cA)|(apply OKx_gb; refine OKx_append1 4 1 rfl rfl rfl rfl rfl (by omega) (by omega) ?_; intro gA cA)|(refine OKr_rid 7 ?_; refine OKr_pureAnz2 19 8 16 [0, 1, 2, 3, 4, 7, 8, 9, 10, 11, 12] [.box 41 g3 [.slice pa k pc, .slice na k nc], .box 71 g4 [.map (some gm)], .obj gm (PMIs (entP all (k + 1)))] [18, 19, 20, 21, 22, 23, 24, 25, 26, 27, 28, 29, 30, 31, 32, 33, 34] 24 32 ((trM g2 g3 g4 gm gx (.pointer a) all par nm k (zY y gy ge ++ B'))) (id := 7) (by kernel_rfl) (by kernel_rfl) (by kernel_rfl) (by kernel_rfl) (by kernel_rfl) (by kernel_rfl) (by exact Ent.pick [3,4,5] rfl) (by ((try simp only [pickO, nthO, List.cons_append, List.nil_append]) <;> exact rfl)) (by kernel_rfl) ?_ (by first | exact thenR_entN | exact roundQ_entN | exact blockQ_entN thenR_entN | exact blockQ_entN roundQ_entN) ?_)|(apply OKx_nilK)|(apply OKr_block)|(apply blockQ_n)|(apply blockQ_s)|(apply thenQ_e)|(apply blockQ_e;exact rfl)|(apply thenQ_r)|(apply blockQ_r)|(apply OKr_condT;exact rfl)|(apply OKr_condF;exact rfl)|(apply OKr_skip)|(apply OKr_exit)|(apply OKr_ret)|(apply OKx_move;(conv=>lhs;whnf)<;>exact rfl)|(apply OKx_assign;(conv=>lhs;whnf)<;>exact rfl)|(apply OKx_ldB;exact rfl;(first | exact at0|exact at1|exact at2|exact at3|exact at4|exact at5|exact at6|exact at7);exact rfl)|(apply OKx_ldR;(conv=>lhs;whnf)<;>exact rfl;(with_reducible assumption))|(apply OKx_len;exact rfl)|(apply OKx_lenR;(conv=>lhs;whnf)<;>exact rfl;(with_reducible assumption))|(apply OKx_lenR2;(conv=>lhs;whnf)<;>exact rfl;(with_reducible assumption))|(apply OKx_lenO;(conv=>lhs;whnf)<;>exact rfl;(first | exact at0|exact at1|exact at2|exact at3|exact at4|exact at5|exact at6|exact at7))|(apply OKx_fldO;exact rfl;exact rfl)|(apply OKx_fldR;(conv=>lhs;whnf)<;>exact rfl;(with_reducible assumption); decide;intro _ _)|(apply OKx_alloc1;intro _)|(apply OKx_allocA;intro _)|(apply OKx_ldBA;exact rfl;(first | exact at0|exact at1|exact at2|exact at3|exact at4|exact at5|exact at6|exact at7);exact rfl)|(apply OKx_ldRA;(conv=>lhs;whnf)<;>exact rfl;(with_reducible assumption))|(apply OKx_stB;exact rfl;(conv=>lhs;whnf)<;>exact rfl;exact rfl;exact rfl;(first | exact at0|exact at1|exact at2|exact at3|exact at4|exact at5|exact at6|exact at7);exact rfl;exact rfl;exact rfl)|(apply OKx_slit1;(conv=>lhs;whnf)<;>exact rfl;exact rfl;intro _)|(apply OKx_stBA; kernel_rfl;exact rfl;exact rfl;exact rfl;(first | exact at0|exact at1|exact at2|exact at3|exact at4|exact at5|exact at6|exact at7);exact rfl;exact rfl;exact rfl)|(apply OKx_nilCheck;exact rfl)|(refine OKd_step2 (S := [0, 1, 2, 3, 4, 7, 8, 9, 10, 11, 12]) (i1 := 5) (S1 := [0, 1, 2, 3, 4, 5, 7, 8, 9, 10, 11, 12]) (i2 := 13) (S2 := [0, 1, 2, 3, 4, 7, 8, 9, 10, 11, 12, 13]) (.inr (by first | exact Ent.pick [3, 4, 5] rfl | exact Ent.pick [4, 5, 6] rfl | exact Ent.pick [5, 6, 7] rfl | exact Ent.pick [6, 7, 8] rfl | exact Ent.pick [7, 8, 9] rfl | exact Ent.pick [8, 9, 10] rfl | exact Ent.sub (by repeat (first | exact List.Sublist.refl _ | exact List.nil_sublist _ | apply List.sublist_append_of_sublist_right | apply List.Sublist.cons_cons | apply List.Sublist.cons)))) (by kernel_rfl) (by kernel_rfl) (by kernel_rfl) rfl rfl ?_ ?_)|(refine OKd_step1 (S := [0, 1, 2, 3, 4, 7, 8, 9, 10, 11, 12, 13]) (i1 := 5) (S1 := [0, 1, 2, 3, 4, 5, 7, 8, 9, 10, 11, 12, 13]) (.inr (by first | exact Ent.pick [3, 4, 5] rfl | exact Ent.pick [4, 5, 6] rfl | exact Ent.pick [5, 6, 7] rfl | exact Ent.pick [6, 7, 8] rfl | exact Ent.pick [7, 8, 9] rfl | exact Ent.pick [8, 9, 10] rfl | exact Ent.sub (by repeat (first | exact List.Sublist.refl _ | exact List.nil_sublist _ | apply List.sublist_append_of_sublist_right | apply List.Sublist.cons_cons | apply List.Sublist.cons)))) (by kernel_rfl) (by kernel_rfl) rfl ?_)|(refine OKd_step1 (S := [0, 1, 2, 3, 4, 5, 7, 8, 9, 10, 11, 12, 13]) (i1 := 6) (S1 := [0, 1, 2, 3, 4, 5, 6, 7, 8, 9, 10, 11, 12, 13]) (.inr (by first | exact Ent.pick [3, 4, 5] rfl | exact Ent.pick [4, 5, 6] rfl | exact Ent.pick [5, 6, 7] rfl | exact Ent.pick [6, 7, 8] rfl | exact Ent.pick [7, 8, 9] rfl | exact Ent.pick [8, 9, 10] rfl | exact Ent.sub (by repeat (first | exact List.Sublist.refl _ | exact List.nil_sublist _ | apply List.sublist_append_of_sublist_right | apply List.Sublist.cons_cons | apply List.Sublist.cons)))) (by kernel_rfl) (by kernel_rfl) rfl ?_)|(refine OKd_pure (S := [0, 1, 2, 3, 4, 5, 6, 7, 8, 9, 10, 11, 12, 13]) (i := 15) (S1 := [0, 1, 2, 3, 4, 5, 6, 7, 8, 9, 10, 11, 12, 13, 15]) (by kernel_rfl) (by kernel_rfl) (by kernel_rfl) rfl ?_)|(refine OKd_step1 (S := [0, 1, 2, 3, 4, 5, 6, 7, 8, 9, 10, 11, 12, 13, 15]) (i1 := 14) (S1 := [0, 1, 2, 3, 4, 5, 6, 7, 8, 9, 10, 11, 12, 13, 14, 15]) (.inr (by first | exact Ent.pick [3, 4, 5] rfl | exact Ent.pick [4, 5, 6] rfl | exact Ent.pick [5, 6, 7] rfl | exact Ent.pick [6, 7, 8] rfl | exact Ent.pick [7, 8, 9] rfl | exact Ent.pick [8, 9, 10] rfl | exact Ent.sub (by repeat (first | exact List.Sublist.refl _ | exact List.nil_sublist _ | apply List.sublist_append_of_sublist_right | apply List.Sublist.cons_cons | apply List.Sublist.cons)))) (by kernel_rfl) (by kernel_rfl) rfl ?_)|(refine OKd_step1 (S := [0, 1, 2, 3, 4, 5, 6, 7, 8, 9, 10, 11, 12, 13, 14, 15]) (i1 := 16) (S1 := [0, 1, 2, 3, 4, 5, 6, 7, 8, 9, 10, 11, 12, 13, 14, 15, 16]) (.inr (by first | exact Ent.pick [3, 4, 5] rfl | exact Ent.pick [4, 5, 6] rfl | exact Ent.pick [5, 6, 7] rfl | exact Ent.pick [6, 7, 8] rfl | exact Ent.pick [7, 8, 9] rfl | exact Ent.pick [8, 9, 10] rfl | exact Ent.sub (by repeat (first | exact List.Sublist.refl _ | exact List.nil_sublist _ | apply List.sublist_append_of_sublist_right | apply List.Sublist.cons_cons | apply List.Sublist.cons)))) (by kernel_rfl) (by kernel_rfl) rfl ?_)|(refine OKd_step1 (S := [0, 1, 2, 3, 4, 5, 6, 7, 8, 9, 10, 11, 12, 13, 14, 15, 16]) (i1 := 17) (S1 := [0, 1, 2, 3, 4, 5, 6, 7, 8, 9, 10, 11, 12, 13, 14, 15, 16, 17]) (.inl (by kernel_rfl)) (by kernel_rfl) (by kernel_rfl) rfl ?_)|(refine OKd_step1 (S := [0, 1, 2, 3, 4, 5, 6, 7, 8, 9, 10, 11, 12, 13, 14, 15, 16, 17]) (i1 := 18) (S1 := [0, 1, 2, 3, 4, 5, 6, 7, 8, 9, 10, 11, 12, 13, 14, 15, 16, 17, 18]) (.inl (by kernel_rfl)) (by kernel_rfl) (by kernel_rfl) rfl ?_)|(refine OKd_end (S := [0, 1, 2, 3, 4, 5, 6, 7, 8, 9, 10, 11, 12, 13, 14, 15, 16, 17, 18]) (by kernel_rfl) (.inl (by kernel_rfl)) ?_)|(refine OKd_step2 (S := [0, 1, 2, 3, 4, 5, 7, 8, 9, 10, 11, 12]) (i1 := 6) (S1 := [0, 1, 2, 3, 4, 5, 6, 7, 8, 9, 10, 11, 12]) (i2 := 13) (S2 := [0, 1, 2, 3, 4, 5, 7, 8, 9, 10, 11, 12, 13]) (.inr (by first | exact Ent.pick [3, 4, 5] rfl | exact Ent.pick [4, 5, 6] rfl | exact Ent.pick [5, 6, 7] rfl | exact Ent.pick [6, 7, 8] rfl | exact Ent.pick [7, 8, 9] rfl | exact Ent.pick [8, 9, 10] rfl | exact Ent.sub (by repeat (first | exact List.Sublist.refl _ | exact List.nil_sublist _ | apply List.sublist_append_of_sublist_right | apply List.Sublist.cons_cons | apply List.Sublist.cons)))) (by kernel_rfl) (by kernel_rfl) (by kernel_rfl) rfl rfl ?_ ?_)|(refine OKd_pure (S := [0, 1, 2, 3, 4, 5, 6, 7, 8, 9, 10, 11, 12]) (i := 15) (S1 := [0, 1, 2, 3, 4, 5, 6, 7, 8, 9, 10, 11, 12, 15]) (by kernel_rfl) (by kernel_rfl) (by kernel_rfl) rfl ?_)|(refine OKd_step1 (S := [0, 1, 2, 3, 4, 5, 6, 7, 8, 9, 10, 11, 12, 15]) (i1 := 13) (S1 := [0, 1, 2, 3, 4, 5, 6, 7, 8, 9, 10, 11, 12, 13, 15]) (.inr (by first | exact Ent.pick [3, 4, 5] rfl | exact Ent.pick [4, 5, 6] rfl | exact Ent.pick [5, 6, 7] rfl | exact Ent.pick [6, 7, 8] rfl | exact Ent.pick [7, 8, 9] rfl | exact Ent.pick [8, 9, 10] rfl | exact Ent.sub (by repeat (first | exact List.Sublist.refl _ | exact List.nil_sublist _ | apply List.sublist_append_of_sublist_right | apply List.Sublist.cons_cons | apply List.Sublist.cons)))) (by kernel_rfl) (by kernel_rfl) rfl ?_))
    · rintro v1 v2 L1 G ⟨ga, ca, gb, cb, rfl⟩
      repeat' (first|(apply OKr_seq)|(apply thenQ_n)|(apply OKr_region;exact rfl)|(refine OKr_rid 7 ?_; refine OKr_mix [0, 1, 7, 8, 9, 10, 11, 12] [2, 3, 4] [] [5, 6, 13, 14, 15, 16, 17, 18] [] (id := 7) (by kernel_rfl) (by kernel_rfl) rfl (Ent.nil) (by ((try simp only [pickO, nthO, List.cons_append, List.nil_append]) <;> exact rfl)) (by ((try simp only [pickO, nthO, List.cons_append, List.nil_append]) <;> exact rfl)) (by ((try simp only [pickO]) <;> exact rfl)) (by ((try simp only [pickO, nthO, List.cons_append, List.nil_append]) <;> exact rfl)) ?_)|(apply OKx_nilK)|(apply OKr_block)|(apply blockQ_n)|(apply blockQ_s)|(apply thenQ_e)|(apply blockQ_e;exact rfl)|(apply thenQ_r)|(apply blockQ_r)|(apply OKr_condT;exact rfl)|(apply OKr_condF;exact rfl)|(apply OKr_skip)|(apply OKr_exit)|(apply OKr_ret)|(apply OKx_move;(conv=>lhs;whnf)<;>exact rfl)|(apply OKx_assign;(conv=>lhs;whnf)<;>exact rfl)|(apply OKx_ldB;exact rfl;(first | exact at0|exact at1|exact at2|exact at3|exact at4|exact at5|exact at6|exact at7);exact rfl)|(apply OKx_ldR;(conv=>lhs;whnf)<;>exact rfl;(with_reducible assumption))|(apply OKx_len;exact rfl)|(apply OKx_lenR;(conv=>lhs;whnf)<;>exact rfl;(with_reducible assumption))|(apply OKx_lenR2;(conv=>lhs;whnf)<;>exact rfl;(with_reducible assumption))|(apply OKx_lenO;(conv=>lhs;whnf)<;>exact rfl;(first | exact at0|exact at1|exact at2|exact at3|exact at4|exact at5|exact at6|exact at7))|(apply OKx_fldO;exact rfl;exact rfl)|(apply OKx_fldR;(conv=>lhs;whnf)<;>exact rfl;(with_reducible assumption); decide;intro _ _)|(apply OKx_alloc1;intro _)|(apply OKx_allocA;intro _)|(apply OKx_ldBA;exact rfl;(first | exact at0|exact at1|exact at2|exact at3|exact at4|exact at5|exact at6|exact at7);exact rfl)|(apply OKx_ldRA;(conv=>lhs;whnf)<;>exact rfl;(with_reducible assumption))|(apply OKx_stB;exact rfl;(conv=>lhs;whnf)<;>exact rfl;exact rfl;exact rfl;(first | exact at0|exact at1|exact at2|exact at3|exact at4|exact at5|exact at6|exact at7);exact rfl;exact rfl;exact rfl)|(apply OKx_slit1;(conv=>lhs;whnf)<;>exact rfl;exact rfl;intro _)|(apply OKx_stBA; kernel_rfl;exact rfl;exact rfl;exact rfl;(first | exact at0|exact at1|exact at2|exact at3|exact at4|exact at5|exact at6|exact at7);exact rfl;exact rfl;exact rfl)|(apply OKx_nilCheck;exact rfl))
      refine ⟨.box 53 gx [.pointer a] :: ([_, _, _, _, _, _] ++ zY y gy ge), Ent.refl _ _, _, (hJP _ _).2 ⟨hpre, ?_⟩, rfl⟩
      rw [hpl]
      exact ⟨some ⟨ga, 0, none⟩, ca, some ⟨gb, 0, none⟩, cb, by rw [htp, htn]; simp [ints, strs]⟩
    all_goals
      exact ⟨by (repeat' (first | refine agree_upd rfl ?_ | exact agree_over | exact agree_refl _ _ | refine agree_over2 rfl ?_)), _, Ent.sub ((List.sublist_cons_self _ _).trans (List.sublist_cons_self _ _)), _, _, _, _, rfl⟩
  · rintro D X' hX
    obtain ⟨_, pa, pc, na, nc, rfl⟩ := (hJP _ _).1 hX
    have e1 : par.take all.length = par := List.take_of_length_le (by rw [h.lp];omega)
    have e2 : nm.take all.length = nm := List.take_of_length_le (by rw [h.ln];omega)
    rw [List.length_map, e1, e2]
    repeat' (first|(apply OK_seq)|(apply thenQ_n)|(apply OK_region)|(refine OK_rid 7 ?_; refine OK_mix [0, 1, 7, 8, 9, 10, 11, 12] [2, 3, 4] [] [5, 6, 13, 14, 15, 16, 17, 18] [] (id := 7) (by kernel_rfl) (by kernel_rfl) rfl (Ent.nil) (by ((try simp only [pickO, nthO, List.cons_append, List.nil_append]) <;> exact rfl)) (by ((try simp only [pickO, nthO, List.cons_append, List.nil_append]) <;> exact rfl)) (by ((try simp only [pickO]) <;> exact rfl)) (by ((try simp only [pickO, nthO, List.cons_append, List.nil_append]) <;> exact rfl)) ?_)|(apply OKx_nilK)|(apply OK_block)|(apply blockQ_n)|(apply blockQ_s)|(apply thenQ_e)|(apply blockQ_e;exact rfl)|(apply thenQ_r)|(apply blockQ_r)|(apply OK_condT;exact rfl)|(apply OK_condF;exact rfl)|(apply OK_skip)|(apply OK_exit)|(apply OK_ret)|(apply OKx_move;(conv=>lhs;whnf)<;>exact rfl)|(apply OKx_assign;(conv=>lhs;whnf)<;>exact rfl)|(apply OKx_ldB;exact rfl;(first | exact at0|exact at1|exact at2|exact at3|exact at4|exact at5|exact at6|exact at7);exact rfl)|(apply OKx_ldR;(conv=>lhs;whnf)<;>exact rfl;(with_reducible assumption))|(apply OKx_len;exact rfl)|(apply OKx_lenR;(conv=>lhs;whnf)<;>exact rfl;(with_reducible assumption))|(apply OKx_lenR2;(conv=>lhs;whnf)<;>exact rfl;(with_reducible assumption))|(apply OKx_lenO;(conv=>lhs;whnf)<;>exact rfl;(first | exact at0|exact at1|exact at2|exact at3|exact at4|exact at5|exact at6|exact at7))|(apply OKx_fldO;exact rfl;exact rfl)|(apply OKx_fldR;(conv=>lhs;whnf)<;>exact rfl;(with_reducible assumption); decide;intro _ _)|(apply OKx_alloc1;intro _)|(apply OKx_allocA;intro _)|(apply OKx_ldBA;exact rfl;(first | exact at0|exact at1|exact at2|exact at3|exact at4|exact at5|exact at6|exact at7);exact rfl)|(apply OKx_ldRA;(conv=>lhs;whnf)<;>exact rfl;(with_reducible assumption))|(apply OKx_stB;exact rfl;(conv=>lhs;whnf)<;>exact rfl;exact rfl;exact rfl;(first | exact at0|exact at1|exact at2|exact at3|exact at4|exact at5|exact at6|exact at7);exact rfl;exact rfl;exact rfl)|(apply OKx_slit1;(conv=>lhs;whnf)<;>exact rfl;exact rfl;intro _)|(apply OKx_stBA; kernel_rfl;exact rfl;exact rfl;exact rfl;(first | exact at0|exact at1|exact at2|exact at3|exact at4|exact at5|exact at6|exact at7);exact rfl;exact rfl;exact rfl)|(apply OKx_nilCheck;exact rfl))
    exact bodyM_d1 D (by first | exact .inl rfl | exact .inr rfl) (resIs_cellA 5 (by ((conv=>lhs;whnf)<;>exact rfl)) rfl rfl) ⟨_, Ent.pick [0, 1] rfl, _, _, _, _, rfl, rfl⟩ (by simp only [updo_none1, updo_none2, marks_push]; rfl)
  · rintro D c X' h
    exact h.elim
end Go.Proofs.YtpknpbeiifjmgaaDoor
