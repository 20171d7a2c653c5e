/-
  Part 8 of the proof: Nd31, PtM, Rdr, Ryz, Kind, Char. No statement of the seat is proved here.
-/
import Derived.Test.YtpknpbeiifjmgaaDoorMHSa387
import Derived.MapKept
import Derived.LaidEql
import Derived.RangeFuncOwn
import Derived.OrdersIn
import Derived.Test.YtpknpbeiifjmgaaDoorRows
import Derived.WalkKit
import Derived.WalkSpells
import Derived.WalkLawsBesides
import Derived.Lib.Hide
import Derived.Deep.Light
namespace Go.Proofs.YtpknpbeiifjmgaaDoor
open Go.RowKit
def capY (gy ge : Nat) : List Value := [.pointer (some ⟨gy, 0, none⟩), .pointer (some ⟨ge, 0, none⟩)]
def zY (y gy ge : Nat) : List Res := [.box 98 gy [.func (.yield y) #[] #[]], .box 98 ge [.func (.func 66) #[] (capY gy ge).toArray]]
def YyR (JP : List (Value × Value) → List Res → Prop) (Z Br : List Res) (l : List (Value × Value)) (u : Value) (L : List Res) : Prop := u = .bool true ∧ ∃ J', JP l J' ∧ L = (J' ++ Z) ++ Br
def EyR (JP : List (Value × Value) → List Res → Prop) (Z Br : List Res) (l : List (Value × Value)) (u : Value) (L : List Res) : Prop := u = .bool true ∧ ∃ J', JP l J' ∧ L = Z ++ (J' ++ Br)
def Yields (w0 : World) (p par : Value) (ys : List (Value × Value)) : Prop :=
  ∀ (y gy ge : Nat) (all : List (Value × Value)) (Br : List Res) (JP : List (Value × Value) → List Res → Prop),
    (∀ x q pre J, JP pre J → (pre ++ [(x, q)]) <+: all → SatY Tryd.prog y [x, q] w0 ((J ++ zY y gy ge) ++ Br) (YyR JP (zY y gy ge) Br (pre ++ [(x, q)]))) →
    ∀ pre J, JP pre J → (pre ++ ys) <+: all → SatL Tryd.prog 66 (p :: par :: capY gy ge) w0 (zY y gy ge ++ (J ++ Br)) (EyR JP (zY y gy ge) Br (pre ++ ys))
theorem swapC {w0 : World} (J Z B : List Res) : Ent w0 ((J ++ Z) ++ B) (Z ++ (J ++ B)) := by
  refine Ent.perm ?_
  rw [← List.append_assoc Z J B]
  exact List.perm_append_comm.append_right B
theorem swapD {w0 : World} (J Z B : List Res) : Ent w0 (Z ++ (J ++ B)) ((J ++ Z) ++ B) := by
  refine Ent.perm ?_
  rw [← List.append_assoc Z J B]
  exact List.perm_append_comm.append_right B
def belK (kids : List (Value × List (Value × Value))) (k : Nat) : List (Value × Value) := (kids.take k).flatMap (·.2)
theorem belK_step (kids : List (Value × List (Value × Value))) (k : Nat) (h : k < kids.length) : belK kids (k + 1) = belK kids k ++ (kids.getD k (undef, [])).2 := by
  unfold belK
  rw [List.take_succ_eq_append_getElem h, List.flatMap_append]
  simp [List.getD_eq_getElem?_getD, h]
theorem belK_pre (kids : List (Value × List (Value × Value))) (k : Nat) : belK kids k <+: belK kids kids.length := by
  unfold belK
  rw [List.take_length]
  refine ⟨(kids.drop k).flatMap (·.2), ?_⟩
  rw [← List.flatMap_append, List.take_append_drop]
set_option maxRecDepth 100000 in
set_option maxHeartbeats 2000000 in
theorem Yields.node {w0 : World} (g : Nat) (par kv : Value) (kids : List (Value × List (Value × Value))) (h1 : Pt1 w0 (.pointer (some ⟨g, 1, none⟩)) kv) (hk : Sl w0 kv 1 kids.length (fun j => (kids.getD j (undef, [])).1))
    (hY : ∀ j, j < kids.length → Yields w0 (kids.getD j (undef, [])).1 (.pointer (some ⟨g, 0, none⟩)) (kids.getD j (undef, [])).2) : Yields w0 (.pointer (some ⟨g, 0, none⟩)) par ((.pointer (some ⟨g, 0, none⟩), par) :: belK kids kids.length) := by
  intro y gy ge all Br JP hy pre J hJ hpre
  have hkb := hk.bound
  have hpre0 : ∀ k, (pre ++ [(.pointer (some ⟨g, 0, none⟩), par)]) ++ belK kids k <+: all := fun k => List.IsPrefix.trans (by
    rw [List.append_assoc]
    exact (List.prefix_append_right_inj pre).2 (by simpa using belK_pre kids k)) hpre
  have hpre1 : pre ++ [(.pointer (some ⟨g, 0, none⟩), par)] <+: all := by have := hpre0 0; simpa [belK] using this
  have hyy := hy _ _ _ _ hJ hpre1
  generalize hZ : EyR _ _ _ _ = R
  simp only [capY, zY, List.cons_append, List.nil_append]
  refine SatL.of 29 [6] Tryd.func66 (by kernel_rfl) (by kernel_rfl) rfl rfl rfl rfl ?_
  repeat' (first|(refine OK_regionY (id := 1) 0 [_, _, _] [_] rfl rfl ?_)|(apply OK_seq)|(apply thenQ_n)|(apply OK_region)|(apply OKx_nilK)|(apply OK_block)|(apply blockQ_n)|(apply blockQ_s)|(apply thenQ_e)|(apply blockQ_e;exact rfl)|(apply thenQ_r)|(apply blockQ_r)|(apply OK_condT;exact rfl)|(apply OK_condF;exact rfl)|(apply OK_skip)|(apply OK_exit)|(apply OK_ret)|(apply OKx_move;(conv=>lhs;whnf)<;>exact rfl)|(apply OKx_assign;(conv=>lhs;whnf)<;>exact rfl)|(apply OKx_ldB;exact rfl;(first | exact at0|exact at1|exact at2|exact at3|exact at4|exact at5|exact at6|exact at7);exact rfl)|(apply OKx_ldR;(conv=>lhs;whnf)<;>exact rfl;(with_reducible assumption))|(apply OKx_len;exact rfl)|(apply OKx_lenR;(conv=>lhs;whnf)<;>exact rfl;(with_reducible assumption))|(apply OKx_lenR2;(conv=>lhs;whnf)<;>exact rfl;(with_reducible assumption))|(apply OKx_lenO;(conv=>lhs;whnf)<;>exact rfl;(first | exact at0|exact at1|exact at2|exact at3|exact at4|exact at5|exact at6|exact at7))|(apply OKx_lss;exact rfl;exact rfl;all_goals (intro _; try (exfalso;omega)))|(apply OKx_idxO;exact rfl;exact rfl;omega)|(apply OKx_idxR;(conv=>lhs;whnf)<;>exact rfl;(with_reducible assumption);exact rfl;omega;intro _ _)|(apply OKx_idxOz;exact rfl;exact rfl;omega;omega)|(apply OKx_idxRz;(conv=>lhs;whnf)<;>exact rfl;(with_reducible assumption);exact rfl;omega;omega;intro _ _)|(apply OKx_fldO;exact rfl;exact rfl)|(apply OKx_fldR;(conv=>lhs;whnf)<;>exact rfl;(with_reducible assumption); decide;intro _ _)|(apply OKx_inc;exact rfl;exact rfl;omega)|(apply OKx_addN;exact rfl;exact rfl;omega)|(apply OKx_add;exact rfl;exact rfl;omega;omega)|(apply OKx_notT;exact rfl)|(apply OKx_notF;exact rfl)|(apply OKx_nilCheck;exact rfl))
  refine ⟨y, [_, _], YyR JP (zY y gy ge) Br (pre ++ [(.pointer (some ⟨g, 0, none⟩), par)]), (by ((conv=>lhs;whnf)<;>exact rfl)), (by ((conv=>lhs;whnf)<;>exact rfl)), fun w hp => hyy w ((swapD J (zY y gy ge) Br).use w hp), ?_⟩
  rintro _ _ ⟨rfl, J1, hJ1, rfl⟩
  refine OKx_ent (swapC J1 (zY y gy ge) Br) ?_
  simp only [capY, zY, List.cons_append, List.nil_append]
  repeat' (first|(apply OK_seq)|(apply thenQ_n)|(apply OK_region)|(refine OKx_fldO (o' := 1) rfl rfl ?_)|(apply OKx_nilK)|(apply OK_block)|(apply blockQ_n)|(apply blockQ_s)|(apply thenQ_e)|(apply blockQ_e;exact rfl)|(apply thenQ_r)|(apply blockQ_r)|(apply OK_condT;exact rfl)|(apply OK_condF;exact rfl)|(apply OK_skip)|(apply OK_exit)|(apply OK_ret)|(apply OKx_move;(conv=>lhs;whnf)<;>exact rfl)|(apply OKx_assign;(conv=>lhs;whnf)<;>exact rfl)|(apply OKx_ldB;exact rfl;(first | exact at0|exact at1|exact at2|exact at3|exact at4|exact at5|exact at6|exact at7);exact rfl)|(apply OKx_ldR;(conv=>lhs;whnf)<;>exact rfl;(with_reducible assumption))|(apply OKx_len;exact rfl)|(apply OKx_lenR;(conv=>lhs;whnf)<;>exact rfl;(with_reducible assumption))|(apply OKx_lenR2;(conv=>lhs;whnf)<;>exact rfl;(with_reducible assumption))|(apply OKx_lenO;(conv=>lhs;whnf)<;>exact rfl;(first | exact at0|exact at1|exact at2|exact at3|exact at4|exact at5|exact at6|exact at7))|(apply OKx_lss;exact rfl;exact rfl;all_goals (intro _; try (exfalso;omega)))|(apply OKx_idxO;exact rfl;exact rfl;omega)|(apply OKx_idxR;(conv=>lhs;whnf)<;>exact rfl;(with_reducible assumption);exact rfl;omega;intro _ _)|(apply OKx_idxOz;exact rfl;exact rfl;omega;omega)|(apply OKx_idxRz;(conv=>lhs;whnf)<;>exact rfl;(with_reducible assumption);exact rfl;omega;omega;intro _ _)|(apply OKx_fldO;exact rfl;exact rfl)|(apply OKx_fldR;(conv=>lhs;whnf)<;>exact rfl;(with_reducible assumption); decide;intro _ _)|(apply OKx_inc;exact rfl;exact rfl;omega)|(apply OKx_addN;exact rfl;exact rfl;omega)|(apply OKx_add;exact rfl;exact rfl;omega;omega)|(apply OKx_notT;exact rfl)|(apply OKx_notF;exact rfl)|(apply OKx_nilCheck;exact rfl))
  refine OK_loop1 19 [6, 8, 19, 20, 21, 22, 23, 24, 25, 26, 27, 28] (fun m v L => ∃ (k : Nat) (J' : List Res), k + m = kids.length ∧ v = .int .i64 (k : Int) ∧ JP ((pre ++ [(.pointer (some ⟨g, 0, none⟩), par)]) ++ belK kids k) J' ∧ L = zY y gy ge ++ (J' ++ Br)) kids.length _ (Ent.refl _ _) ⟨0, J1, by omega, rfl, by simpa [belK] using hJ1, rfl⟩ ?_
  rintro m v L G ⟨k, J', hm, rfl, hJ', rfl⟩
  by_cases hkm : k < kids.length
  · have hc := hY k hkm y gy ge all Br JP hy _ J' hJ' (by rw [List.append_assoc, ← belK_step kids k hkm]; exact hpre0 (k + 1))
    simp only [capY, zY, List.cons_append, List.nil_append] at hc ⊢
    repeat' (first|(apply OK_seq)|(apply thenQ_n)|(apply OK_region)|(apply OKx_gc 66;exact rfl; refine OKx_callL (f := 66) rfl rfl hc ?_; rintro _ _ ⟨rfl, J2, hJ2, rfl⟩)|(apply OKx_nilK)|(apply OK_block)|(apply blockQ_n)|(apply blockQ_s)|(apply thenQ_e)|(apply blockQ_e;exact rfl)|(apply thenQ_r)|(apply blockQ_r)|(apply OK_condT;exact rfl)|(apply OK_condF;exact rfl)|(apply OK_skip)|(apply OK_exit)|(apply OK_ret)|(apply OKx_move;(conv=>lhs;whnf)<;>exact rfl)|(apply OKx_assign;(conv=>lhs;whnf)<;>exact rfl)|(apply OKx_ldB;exact rfl;(first | exact at0|exact at1|exact at2|exact at3|exact at4|exact at5|exact at6|exact at7);exact rfl)|(apply OKx_ldR;(conv=>lhs;whnf)<;>exact rfl;(with_reducible assumption))|(apply OKx_len;exact rfl)|(apply OKx_lenR;(conv=>lhs;whnf)<;>exact rfl;(with_reducible assumption))|(apply OKx_lenR2;(conv=>lhs;whnf)<;>exact rfl;(with_reducible assumption))|(apply OKx_lenO;(conv=>lhs;whnf)<;>exact rfl;(first | exact at0|exact at1|exact at2|exact at3|exact at4|exact at5|exact at6|exact at7))|(apply OKx_lss;exact rfl;exact rfl;all_goals (intro _; try (exfalso;omega)))|(apply OKx_idxO;exact rfl;exact rfl;omega)|(apply OKx_idxR;(conv=>lhs;whnf)<;>exact rfl;(with_reducible assumption);exact rfl;omega;intro _ _)|(apply OKx_idxOz;exact rfl;exact rfl;omega;omega)|(apply OKx_idxRz;(conv=>lhs;whnf)<;>exact rfl;(with_reducible assumption);exact rfl;omega;omega;intro _ _)|(apply OKx_fldO;exact rfl;exact rfl)|(apply OKx_fldR;(conv=>lhs;whnf)<;>exact rfl;(with_reducible assumption); decide;intro _ _)|(apply OKx_inc;exact rfl;exact rfl;omega)|(apply OKx_addN;exact rfl;exact rfl;omega)|(apply OKx_add;exact rfl;exact rfl;omega;omega)|(apply OKx_notT;exact rfl)|(apply OKx_notF;exact rfl)|(apply OKx_nilCheck;exact rfl))
    refine ⟨by (repeat' (first | refine agree_upd rfl ?_ | exact agree_over | exact agree_refl _ _ | refine agree_over2 rfl ?_)), m - 1, _, by omega, Ent.refl _ _, ?_⟩
    exact ⟨k + 1, J2, by omega, rfl, by rw [belK_step kids k hkm, ← List.append_assoc]; exact hJ2, rfl⟩
  · obtain rfl : k = kids.length := by omega
    simp only [capY, zY, List.cons_append, List.nil_append]
    repeat' (first|(apply OK_seq)|(apply thenQ_n)|(apply OK_region)|(apply OKx_nilK)|(apply OK_block)|(apply blockQ_n)|(apply blockQ_s)|(apply thenQ_e)|(apply blockQ_e;exact rfl)|(apply thenQ_r)|(apply blockQ_r)|(apply OK_condT;exact rfl)|(apply OK_condF;exact rfl)|(apply OK_skip)|(apply OK_exit)|(apply OK_ret)|(apply OKx_move;(conv=>lhs;whnf)<;>exact rfl)|(apply OKx_assign;(conv=>lhs;whnf)<;>exact rfl)|(apply OKx_ldB;exact rfl;(first | exact at0|exact at1|exact at2|exact at3|exact at4|exact at5|exact at6|exact at7);exact rfl)|(apply OKx_ldR;(conv=>lhs;whnf)<;>exact rfl;(with_reducible assumption))|(apply OKx_len;exact rfl)|(apply OKx_lenR;(conv=>lhs;whnf)<;>exact rfl;(with_reducible assumption))|(apply OKx_lenR2;(conv=>lhs;whnf)<;>exact rfl;(with_reducible assumption))|(apply OKx_lenO;(conv=>lhs;whnf)<;>exact rfl;(first | exact at0|exact at1|exact at2|exact at3|exact at4|exact at5|exact at6|exact at7))|(apply OKx_lss;exact rfl;exact rfl;all_goals (intro _; try (exfalso;omega)))|(apply OKx_idxO;exact rfl;exact rfl;omega)|(apply OKx_idxR;(conv=>lhs;whnf)<;>exact rfl;(with_reducible assumption);exact rfl;omega;intro _ _)|(apply OKx_idxOz;exact rfl;exact rfl;omega;omega)|(apply OKx_idxRz;(conv=>lhs;whnf)<;>exact rfl;(with_reducible assumption);exact rfl;omega;omega;intro _ _)|(apply OKx_fldO;exact rfl;exact rfl)|(apply OKx_fldR;(conv=>lhs;whnf)<;>exact rfl;(with_reducible assumption); decide;intro _ _)|(apply OKx_inc;exact rfl;exact rfl;omega)|(apply OKx_addN;exact rfl;exact rfl;omega)|(apply OKx_add;exact rfl;exact rfl;omega;omega)|(apply OKx_notT;exact rfl)|(apply OKx_notF;exact rfl)|(apply OKx_nilCheck;exact rfl))
    refine bodyQ_r1 (by ((conv=>lhs;whnf)<;>exact rfl)) ?_
    subst hZ
    exact ⟨_, Ent.refl _ _, rfl, J', by rw [List.append_assoc] at hJ'; exact hJ', rfl⟩
end Go.Proofs.YtpknpbeiifjmgaaDoor
namespace Go.Proofs.YtpknpbeiifjmgaaDoor
open Go.RowKit Go.Maps
def ptV (q : Option Nat) : Value := .pointer (q.map fun g => ⟨g, 0, none⟩)
def okP (w : World) : Option Nat → Prop
  | none => True
  | some g => ∃ cs t, w.heap[g]? = some (.cells cs t (0, 0))
theorem okP.below {w w1 : World} {q : Option Nat} (h : okP w q) (hb : Below w.heap.size w w1) : okP w1 q := by
  cases q with
  | none => trivial
  | some g =>
    obtain ⟨cs, t, h⟩ := h
    exact ⟨cs, t, by rw [hb.block g (Array.getElem?_eq_some_iff.1 h).1]; exact h⟩
def fndP : List (Option Nat × Value) → Option Nat → Nat → Option (Nat × Value)
  | [], _, _ => none
  | p :: ps, q, i => if q = p.1 then some (i, p.2) else fndP ps q (i + 1)
def PMIs (ps : List (Option Nat × Value)) (o : Obj) : Prop := ∃ es clock, o = .map es clock ∧ es.toList.map (fun e => (e.key, e.val)) = ps.map (fun p => (ptV p.1, p.2))
section
variable {P : Program} {w : World} {kt te : TypeId} {j : TypeInfo}
theorem run_eqIn_ptr (hk : P.underlying kt = some (.pointer te)) (hte : P.info? te = some j) (hsz : j.size ≠ 0) {a b : Option Nat} (ha : okP w a) (hb : okP w b) (d : Nat) : (Op.equalIn (d + 1) kt (ptV a) (ptV b)).run P w = .ok (decide (a = b)) w := by
  unfold Op.equalIn
  cases a with
  | none => cases b <;> simp [run_underlying hk, ptV]
  | some g =>
    cases b with
    | none => simp [run_underlying hk, ptV]
    | some g2 =>
      obtain ⟨_, _, ha⟩ := ha
      obtain ⟨_, _, hb⟩ := hb
      by_cases e : g = g2
      · subst e
        simp [run_underlying hk, ptV, sizeOf, typeInfo, hte, hsz, run_sameAddr_same]
      · have hn : (⟨g, 0, none⟩ : Addr) ≠ ⟨g2, 0, none⟩ := fun h => e (by injection h)
        simp [run_underlying hk, ptV, sizeOf, typeInfo, hte, hsz, run_sameAddr_other w hn ha hb, e]
theorem run_eq_ptr (hk : P.underlying kt = some (.pointer te)) (hte : P.info? te = some j) (hsz : j.size ≠ 0) {a b : Option Nat} (ha : okP w a) (hb : okP w b) : (Op.equal kt (ptV a) (ptV b)).run P w = .ok (decide (a = b)) w := by
  have h := run_eqIn_ptr hk hte hsz ha hb 9999
  unfold Op.equal Op.maxDepth
  exact h
theorem run_asking (hk : P.underlying kt = some (.pointer te)) (hte : P.info? te = some j) (hsz : j.size ≠ 0) {q : Option Nat} (hq : okP w q) : ∀ (es : List MapEntry) (ps : List (Option Nat × Value)) (i : Nat), es.map (fun e => (e.key, e.val)) = ps.map (fun p => (ptV p.1, p.2)) → (∀ p ∈ ps, okP w p.1) →
    (Instr.findAsking kt (ptV q) es i).run P w = .ok (fndP ps q i) w
  | [], [], i, _, _ => rfl
  | [], p :: ps, _, h, _ => by simp at h
  | _ :: _, [], _, h, _ => by simp at h
  | e :: es, p :: ps, i, h, ho => by
    simp only [List.map_cons, List.cons.injEq, Prod.mk.injEq] at h
    obtain ⟨⟨h1, h2⟩, h3⟩ := h
    have ih := run_asking hk hte hsz hq es ps (i + 1) h3 (fun p hp => ho p (List.mem_cons_of_mem _ hp))
    have he := run_eq_ptr hk hte hsz hq (ho p List.mem_cons_self)
    unfold Instr.findAsking fndP
    rw [h1, h2]
    simp only [Sem.run_bind, he, Result.andThen]
    by_cases e : q = p.1
    · rw [if_pos e]
      simp [e]
    · rw [if_neg e]
      simp only [decide_eq_true_eq]
      rw [if_neg e]
      exact ih
theorem run_find_ptr (hk : P.underlying kt = some (.pointer te)) (hte : P.info? te = some j) (hsz : j.size ≠ 0) {q : Option Nat} (hq : okP w q) {es : List MapEntry} {ps : List (Option Nat × Value)} (h : es.map (fun e => (e.key, e.val)) = ps.map (fun p => (ptV p.1, p.2))) (ho : ∀ p ∈ ps, okP w p.1) :
    (Instr.findKey kt (ptV q) es).run P w = .ok (fndP ps q 0) w := by
  have ha := run_asking hk hte hsz hq es ps 0 h ho
  unfold Instr.findKey
  cases es with
  | nil =>
    cases ps with
    | nil => simp [run_underlying hk, Instr.findNow, Result.andThen, fndP]
    | cons p ps => simp at h
  | cons e es =>
    simp only [Sem.run_bind, run_underlying hk, Result.andThen]
    simp only [Instr.findNow, Instr.sameNow]
    exact ha
theorem run_checkKey_ptr (hk : P.underlying kt = some (.pointer te)) (em : Bool) (q : Option Nat) : (Instr.checkKey em 10000 kt (ptV q)).run P w = .ok () w := by
  unfold Instr.checkKey
  simp [run_underlying hk, ptV, Result.andThen]
variable {B : Nat} {w0 : World} {L : List Res} {g : Nat} {t : TypeId} {et : TypeId} {ps : List (Option Nat × Value)}
theorem Hp.mapMadeP (h : Hp B w0 w L) {g : Nat} (hg : w.heap.size = g := by first | rfl | simp) : Hp B w0 (w.alloc (.map #[] 0)) (.obj g (PMIs []) :: L) := by
  subst hg
  exact h.fresh (r := .obj w.heap.size (PMIs [])) ⟨h.base, _, heap_alloc_new w _, #[], 0, rfl, rfl⟩ ((Below.refl _ _).alloc (Nat.le_refl _) _) (fun j hj => by simp [Res.blk] at hj;omega)
theorem Hp.lookP (h : Hp B w0 w L) (i : Nat) (hi : L[i]? = some (.obj g (PMIs ps))) (ht : P.underlying t = some (.map kt et)) (hk : P.underlying kt = some (.pointer te)) (hte : P.info? te = some j) (hsz : j.size ≠ 0) {q : Option Nat} (hq : okP w q) (ho : ∀ p ∈ ps, okP w p.1)
    {n : Nat} {v : Value} (hf : fndP ps q 0 = some (n, v)) : (Instr.lookup t (.map (some g)) (ptV q) false).run P w = .ok v w := by
  obtain ⟨_, o, hb, es, clock, rfl, he⟩ := h.ok _ (List.mem_of_getElem? hi)
  have hr := run_find_ptr (w := w) hk hte hsz hq he ho
  rw [hf] at hr
  simp [Instr.lookup, run_underlying ht, MapKept.run_getObj_map hb, run_checkKey_ptr hk, hr, Result.andThen]
theorem Hp.storeP (h : Hp B w0 w L) (i : Nat) (hi : L[i]? = some (.obj g (PMIs ps))) (ht : P.underlying t = some (.map kt et)) (hk : P.underlying kt = some (.pointer te)) (hte : P.info? te = some j) (hsz : j.size ≠ 0) {q : Option Nat} (hq : okP w q) (ho : ∀ p ∈ ps, okP w p.1)
    (hf : fndP ps q 0 = Option.none) (v : Value) : ∃ w', (Instr.mapUpdate t (.map (some g)) (ptV q) v).run P w = .ok () w' ∧ Hp B w0 w' (L.set i (.obj g (PMIs (ps ++ [(q, v)])))) := by
  obtain ⟨hB, o, hb, es, clock, rfl, he⟩ := h.ok _ (List.mem_of_getElem? hi)
  have hr := run_find_ptr (w := w) hk hte hsz hq he ho
  rw [hf] at hr
  have hlt := (Array.getElem?_eq_some_iff.1 hb).1
  refine ⟨w.putObj g (.map (es.push { key := ptV q, val := v, born := clock }) (clock + 1)), ?_, ?_⟩
  · simp [Instr.mapUpdate, run_underlying ht, MapKept.run_getObj_map hb, run_checkKey_ptr hk, hr, MapKept.run_setObj_map _ hb, Result.andThen]
    rfl
  · refine h.turn hi (grownBy_putObj' w g _) (r' := .obj g (PMIs (ps ++ [(q, v)]))) ⟨hB, _, World.putObj_heap_same hlt, _, _, rfl, ?_⟩ (fun k hk => .inl hk)
    simp [he]
end
section
variable {P : Program} {n : Nat} {w0 : World} {Q : Exit → Fm → List Res → Prop} {K : Fm → List Res → Prop} {F : Fm} {L : List Res} {m : Md} {Lw : List Res} {ops : Array Oper} {rest : List Oper}
  {d : Option Nat} {ty : TypeId} {pos : String} {aft : Array Edge} {ps : List (Option Nat × Value)}
theorem OKx_mkMapP {t : TypeId} [hE : Keeps w0 L Lw] (kk : ∀ g, OKx P n w0 (.seq Lw) ops K rest (updo F d (.map (some g))) (.obj g (PMIs []) :: L)) :
    OKx P n w0 (.seq Lw) ops K (⟨d, .makeMap t none, ty, pos, aft, none⟩ :: rest) F L := by
  refine OKx_act hE.ent fun w hp => ⟨_, w.alloc (.map #[] 0), _, ?_, hp.mapMadeP, kk w.heap.size⟩
  simp [execOp, run_makeMap, Result.andThen]
theorem OKx_lookP {t kt te et : TypeId} {x y : Operand} {g c : Nat} {q : Option Nat} {v : Value} {j : TypeInfo} (i : Nat) (hx : rv n F x = .map (some g)) (hy : rv n F y = ptV q) (hi : L[i]? = some (.obj g (PMIs ps)))
    (ht : P.underlying t = some (.map kt et)) (hk : P.underlying kt = some (.pointer te)) (hte : P.info? te = some j) (hsz : j.size ≠ 0) (hq : okP w0 q) (ho : ∀ p ∈ ps, okP w0 p.1) (hf : fndP ps q 0 = some (c, v))
    (kk : OKx P n w0 m ops K rest (updo F d v) L) : OKx P n w0 m ops K (⟨d, .lookup t x y false, ty, pos, aft, none⟩ :: rest) F L :=
  OKx_still (fun w hp _ _ _ _ => by
    have h := hp.lookP i hi ht hk hte hsz (hq.below hp.below) (fun p hm => (ho p hm).below hp.below) hf
    simp [execOp, hx, hy, h, Result.andThen]) kk
theorem OKx_setP {t kt te et : TypeId} {x y u : Operand} {g : Nat} {q : Option Nat} {v : Value} {j : TypeInfo} [hE : Keeps w0 L Lw] (i : Nat) (hx : rv n F x = .map (some g)) (hy : rv n F y = ptV q) (hu : rv n F u = v) (hi : L[i]? = some (.obj g (PMIs ps)))
    (ht : P.underlying t = some (.map kt et)) (hk : P.underlying kt = some (.pointer te)) (hte : P.info? te = some j) (hsz : j.size ≠ 0) (hq : okP w0 q) (ho : ∀ p ∈ ps, okP w0 p.1) (hf : fndP ps q 0 = none)
    (kk : OKx P n w0 (.seq Lw) ops K rest (updo F d undef) (L.set i (.obj g (PMIs (ps ++ [(q, v)]))))) : OKx P n w0 (.seq Lw) ops K (⟨d, .mapUpdate t x y u, ty, pos, aft, none⟩ :: rest) F L := by
  refine OKx_act0 hE.ent fun w hp => ?_
  obtain ⟨w', hrun, hp'⟩ := hp.storeP i hi ht hk hte hsz (hq.below hp.below) (fun p hm => (ho p hm).below hp.below) hf v
  refine ⟨w', _, ?_, hp', kk⟩
  simp [execOp, hx, hy, hu, hrun, Result.andThen]
theorem OKx_insP {t kt te et : TypeId} {x y u : Operand} {g : Nat} {q : Option Nat} {v : Value} {j : TypeInfo} [hE : Keeps w0 L Lw] (i : Nat) (hx : rv n F x = .map (some g)) (hy : rv n F y = ptV q) (hu : rv n F u = v) (hi : L[i]? = some (.obj g (PMIs ps)))
    (ht : P.underlying t = some (.map kt et)) (hk : P.underlying kt = some (.pointer te)) (hte : P.info? te = some j) (hsz : j.size ≠ 0) (hq : okP w0 q) (ho : ∀ p ∈ ps, okP w0 p.1) (hf : fndP ps q 0 = none)
    (kk : OKx P n w0 (.seq Lw) ops K rest (updo F d undef) (L.set i (.obj g (PMIs (ps ++ [(q, v)]))))) : OKx P n w0 (.seq Lw) ops K (⟨d, .insert t x y u, ty, pos, aft, none⟩ :: rest) F L := by
  refine OKx_act0 hE.ent fun w hp => ?_
  obtain ⟨w', hrun, hp'⟩ := hp.storeP i hi ht hk hte hsz (hq.below hp.below) (fun p hm => (ho p hm).below hp.below) hf v
  refine ⟨w', _, ?_, hp', kk⟩
  simp [execOp, hx, hy, hu, hrun, Result.andThen]
end
end Go.Proofs.YtpknpbeiifjmgaaDoor
namespace Go.Proofs.YtpknpbeiifjmgaaDoor
open Go.RowKit
section
variable {P : Program} {ops : Array Oper}
theorem any_in {ro : Option Nat} {Q Q' : Exit → Act → World → Prop} (hp : ∀ c a w, ¬ Q (.panic c) a w) (ho : ¬ LetsOut Q) (hn : ∀ (i : Nat) (o : Oper), ops[i]? = some o → noDef o = true) (hq : ∀ a w, Q .normal a w → Q' .normal a w) :
    ∀ (fuel : Nat) (listed : Array Bool) (a : Act) (w : World), wpAny P .any ops Q fuel listed a w → wpAnyIn (fen ro) 0 P .any ops Q' fuel listed a w
  | 0, _, _, _, h => ⟨h.1, hq _ _ h.2⟩
  | fuel + 1, listed, a, w, h => by
    refine ⟨fun h0 => hq _ _ (h.1 h0), fun i hi => ?_⟩
    have h1 := h.2 i hi
    unfold wpOp at h1
    unfold wpOpIn
    cases ho2 : ops[i]? with
    | none => rw [ho2] at h1; exact any_in hp ho hn hq fuel _ _ _ h1
    | some o =>
      rw [ho2] at h1
      dsimp only at h1 ⊢
      split
      · rename_i hw
        rw [if_pos hw] at h1
        rcases h1 with h1 | h1
        · exact oper_in (hn i o ho2) hp ho (Oper.wp_mono (fun a w h => any_in hp ho hn hq fuel _ _ _ h) h1)
        · exact absurd h1.2 ho
      · rename_i hw
        rw [if_neg hw] at h1
        exact ⟨fun f _ => fen_fn ro f, any_in hp ho hn hq fuel _ _ _ h1⟩
end
section
variable {P : Program} {ops : Array Oper} {Q : Exit → Act → World → Prop}
theorem wpAny_mix {a : Act} {w : World} {C Cw : World → Prop} (A B A' T : List Nat) (la lb la' lt : List Oper) (hB : mixB ops A B A' T = true)
    (h1 : A.map (fun t => ops[t]?) = la.map some) (h2 : B.map (fun t => ops[t]?) = lb.map some) (h3 : A'.map (fun t => ops[t]?) = la'.map some) (h4 : T.map (fun t => ops[t]?) = lt.map some)
    (hQ : ∀ c a w, ¬ Q (.panic c) a w) (hc : C w.drew) (hcw : Cw w.drew)
    (h : wpPure P ops Cw (fun a1 => wpPure P ops C (fun a2 => wpPure P ops Cw (fun a3 => wpListC P ops Cw Q lt a3 w.drew) la' a2) lb a1) la a) : wpAny P .any ops Q ops.size (Array.replicate ops.size false) a w.drew := by
  simp only [mixB, Bool.and_eq_true] at hB
  obtain ⟨⟨hsel, hsz⟩, hch⟩ := hB
  have hsz' := Nat.eq_of_beq_eq_true hsz
  have e := anyC_early (P := P) (ops := ops) (Q := Q) (wf := w.drew) (Cw := Cw) T lt h4 hcw hsel hQ _ (Array.replicate ops.size false) a hch (by
    unfold started
    rw [List.any_eq_false]
    intro t _
    simp only [Array.getD_eq_getD_getElem?, Array.getElem?_replicate]
    split <;> simp) (by
    refine wpEarly_append _ _ a (wpEarly_of_pure false (fun w hw => by simpa using hw) A la a h1 ?_)
    have mono : ∀ {C : World → Prop} {Q1 Q2 : Act → Prop} (hq : ∀ a, Q1 a → Q2 a) (l : List Oper) (a : Act), wpPure P ops C Q1 l a → wpPure P ops C Q2 l a := by
      intro C Q1 Q2 hq l
      induction l with
      | nil => intro a h; exact hq _ h
      | cons o l ih =>
        intro a h
        unfold wpPure at h ⊢
        split
        · rename_i hw
          rw [if_pos hw] at h
          obtain ⟨v, h1, h2⟩ := h
          exact ⟨v, h1, ih _ h2⟩
        · rename_i hw
          rw [if_neg hw] at h
          exact ih _ h
    refine mono (fun a1 h => wpEarly_append _ _ a1 (wpEarly_of_pure true (fun w' hw => by simp only [if_true] at hw; subst hw; exact hc) B lb a1 h2 (mono (fun a2 h => wpEarly_of_pure false (fun w hw => by simpa using hw) A' la' a2 h3 h) lb a1 h))) la a h)
  have hlen : (List.map (fun i => (i, false)) A ++ (List.map (fun i => (i, true)) B ++ List.map (fun i => (i, false)) A')).length + T.length = ops.size := by
    simp only [List.length_append, List.length_map];omega
  rw [hlen] at e
  exact anyC_any _ _ _ _ e
end
section
variable {P : Program} {n : Nat} {w0 : World} {ro : Nat} {Q : Exit → Fm → List Res → Prop} {F : Fm} {L : List Res}
theorem OKr_of_any {id : Nat} {l : List Oper} (hm : P.follows .mixedOrders = true) (hn : l.all noDef = true) (h : ∀ w a, Fr n a F → Hp w0.heap.size w0 w L → wpAny P .any l.toArray (liftN n w0 (Q .normal)) l.toArray.size (Array.replicate l.toArray.size false) a w.drew) : OKr P n w0 ro Q (.region id l.toArray true) F L := by
  unfold OKr
  intro w a hf hp
  refine wpIn_region_any hm (any_in (Q := liftN n w0 (Q .normal)) liftN_noPanic liftN_noOut (fun i o hi => ?_) (fun a w h => ?_) _ _ _ _ (h w a hf hp))
  · rw [List.getElem?_toArray] at hi
    exact List.all_eq_true.1 hn o (List.mem_of_getElem? hi)
  · obtain ⟨_, F', L', h1, h2, h3⟩ := h
    exact ⟨F', L', h1, h2, h3⟩
theorem OKr_rid (id : Nat) {a : Array Oper} {b : Bool} (h : OKr P n w0 ro Q (.region id a b) F L) : OKr P n w0 ro Q (.region id a b) F L := h
theorem OKr_quiet {id : Nat} {l : List Oper} (hm : P.follows .mixedOrders = true) (hB : Region.lexB .any l.toArray = true) (h : OKx P n w0 .quiet l.toArray (Q .normal) l F L) (hn : l.all noDef = true := by rfl) : OKr P n w0 ro Q (.region id l.toArray true) F L := by
  refine OKr_of_any hm hn fun w a hf hp => ?_
  simp only [Region.lexB, Bool.and_eq_true] at hB
  refine wpAny_of_quiet (C := fun w => Hp w0.heap.size w0 w L) (Q := fun a' => ∃ F', Fr n a' F' ∧ Q .normal F' L) (fun a w hc h => (by obtain ⟨F', h1, h2⟩ := h; exact ⟨rfl, F', L, h1, hc, h2⟩)) _ _ _ _ hp.drew ?_
  have := wpAnyQ_lex (P := P) (C := fun w => Hp w0.heap.size w0 w L) (md := .any) hB.1 l 0 (Array.replicate l.toArray.size false) a (by simp) (by simpa using hB.2) (h.useQ a hf)
  simpa using this
theorem OKr_mix (A B A' T : List Nat) (Lw : List Res) {id : Nat} {l la lb la' lt : List Oper} (hm : P.follows .mixedOrders = true) (hB : mixB l.toArray A B A' T = true) (hI : ((A ++ (B ++ (A' ++ T))).all fun i => Nat.ble (i + 1) l.length) = true) (e : Ent w0 L Lw) (hA : pickO l A = la) (hB' : pickO l B = lb) (hA' : pickO l A' = la') (hT : pickO l T = lt)
    (h : OKx P n w0 .pure l.toArray (fun F1 _ => OKx P n w0 .pure l.toArray (fun F2 _ => OKx P n w0 .pure l.toArray (fun F3 _ => OKx P n w0 (.seq Lw) l.toArray (Q .normal) lt F3 L) la' F2 Lw) lb F1 L) la F Lw) (hn : l.all noDef = true := by rfl) : OKr P n w0 ro Q (.region id l.toArray true) F L := by
  subst hA hB' hA' hT
  refine OKr_of_any hm hn fun w a hf hp => ?_
  simp only [List.all_append, Bool.and_eq_true] at hI
  refine wpAny_mix (P := P) (ops := l.toArray) (a := a) (w := w) (Q := liftN n w0 (Q .normal)) (C := fun w => Hp w0.heap.size w0 w L) (Cw := fun w => Hp w0.heap.size w0 w Lw) A B A' T _ _ _ _ hB (pickO_at l A hI.1) (pickO_at l B hI.2.1) (pickO_at l A' hI.2.2.1) (pickO_at l T hI.2.2.2)
    (fun c a w h => by cases h.1) hp.drew (e.use _ hp.drew) ?_
  · have mono : ∀ {C : World → Prop} {Q1 Q2 : Act → Prop} (hq : ∀ a, Q1 a → Q2 a) (l' : List Oper) (a : Act), wpPure P l.toArray C Q1 l' a → wpPure P l.toArray C Q2 l' a := by
      intro C Q1 Q2 hq l'
      induction l' with
      | nil => intro a h; exact hq _ h
      | cons o l' ih =>
        intro a h
        unfold wpPure at h ⊢
        split
        · rename_i hw
          rw [if_pos hw] at h
          obtain ⟨v, h1, h2⟩ := h
          exact ⟨v, h1, ih _ h2⟩
        · rename_i hw
          rw [if_neg hw] at h
          exact ih _ h
    refine mono ?_ _ a (h.useP a hf)
    rintro a1 ⟨F1, hf1, h⟩
    refine mono ?_ _ a1 (h.useP a1 hf1)
    rintro a2 ⟨F2, hf2, h⟩
    refine mono ?_ _ a2 (h.useP a2 hf2)
    rintro a3 ⟨F3, hf3, h⟩
    exact h.use _ a3 hf3 hp.drew
end
end Go.Proofs.YtpknpbeiifjmgaaDoor
namespace Go.Proofs.YtpknpbeiifjmgaaDoor
open Go.RowKit
section
variable {P : Program} {n : Nat} {w0 : World} {ro : Nat} {Q : Exit → Fm → List Res → Prop} {F : Fm} {L : List Res} {l : List Oper}
theorem OKr_pureAnz (N f T : Nat) (E : List Nat) (Lw : List Res) {id : Nat} {le : List Oper} (hm : P.follows .mixedOrders = true) (hN : Nat.beq l.length N = true) (hB : (Region.noSelect l.toArray && pureLB l.toArray E (maskS N [])) = true) (hI : (E.all fun i => Nat.ble (i + 1) l.length) = true)
    (hS : ((listE E (maskS N [])).toList == (maskS N E).toList) = true) (hf : Nat.beq (f + E.length) N = true) (e : Ent w0 L Lw) (hE : pickO l E = le) (hT : (E.all (waitsB l.toArray T)) = true)
    (h : OKx P n w0 .pure l.toArray (fun F1 _ => OKd P n w0 T Lw (Q .normal) l N f E F1 L) le F Lw) (hn : l.all noDef = true := by rfl) : OKr P n w0 ro Q (.region id l.toArray true) F L := by
  obtain rfl : l.length = N := Nat.eq_of_beq_eq_true hN
  have hf' := Nat.eq_of_beq_eq_true hf
  subst hE
  simp only [Bool.and_eq_true] at hB
  have hS' : listE E (maskS l.length []) = maskS l.length E := Array.toList_inj.1 (beq_iff_eq.1 hS)
  refine OKr_of_any hm hn fun w a hfr hp => ?_
  have e0 : maskS l.length [] = Array.replicate l.toArray.size false := by
    unfold maskS
    apply Array.ext
    · simp
    · intro i h1 h2; simp [memN]
  have key := anyD_pureE (P := P) (T := T) (ops := l.toArray) (Q := liftN n w0 (Q .normal)) (Cw := fun w => Hp w0.heap.size w0 w Lw) hB.1 (fun c a w h => by cases h.1) f E (pickO l E) (maskS l.length []) a w.drew (pickO_at l E hI) hB.2 hT (by
    have h1 := h.useP a hfr
    refine wpPure_mono ?_ _ _ h1
    rintro a' ⟨F', h2, h3⟩
    rw [hS']
    exact OKd.use h3 _ _ h2 hp.drew)
  rw [hf', e0] at key
  have key2 := anyC_any _ _ _ _ key
  have e2 : l.toArray.size = l.length := by simp
  rw [e2] at key2 ⊢
  exact key2
theorem OKr_pureAnz2 (N f T : Nat) (E : List Nat) (Lw : List Res) (W : List Nat) (s1 s2 : Nat) (Mid : Value → Value → List Res → Prop) {id : Nat} {le : List Oper} (hm : P.follows .mixedOrders = true) (hN : Nat.beq l.length N = true) (hB : (Region.noSelect l.toArray && pureLB l.toArray E (maskS N [])) = true) (hI : (E.all fun i => Nat.ble (i + 1) l.length) = true)
    (hS : ((listE E (maskS N [])).toList == (maskS N E).toList) = true) (hf : Nat.beq (f + E.length) N = true) (e : Ent w0 L Lw) (hE : pickO l E = le) (hT : (E.all (waitsB l.toArray T)) = true)
    (h2 : ∀ v1 v2 L1 G, Mid v1 v2 L1 → Q .normal (upd (upd (over W G F) s1 v1) s2 v2) L1) (hQ : ∀ F2 L2 L3, Ent w0 L2 L3 → Q .normal F2 L3 → Q .normal F2 L2)
    (h : OKx P n w0 .pure l.toArray (fun F1 _ => OKd P n w0 T Lw (fun F2 L2 => agree W F2 F ∧ ∃ L1, Ent w0 L2 L1 ∧ Mid (F2 (some s1)) (F2 (some s2)) L1) l N f E F1 L) le F Lw) (hn : l.all noDef = true := by rfl) : OKr P n w0 ro Q (.region id l.toArray true) F L := by
  let Q1 : Exit → Fm → List Res → Prop := fun e F2 L2 => match e with
    | .normal => agree W F2 F ∧ ∃ L1, Ent w0 L2 L1 ∧ Mid (F2 (some s1)) (F2 (some s2)) L1
    | _ => False
  refine OKr_mono (Q := Q1) (OKr_pureAnz N f T E Lw hm hN hB hI hS hf e hE hT h hn) ?_
  intro ex F2 L2 hx
  cases ex with
  | normal =>
    obtain ⟨ha, L1, e1, hM⟩ := hx
    have hk := h2 _ _ L1 F2 hM
    rw [← over_upd ha, upd_self, upd_self] at hk
    exact hQ _ _ _ e1 hk
  | _ => exact hx.elim
end
section
variable {P : Program} {n : Nat} {w0 : World} {ro : Nat} {Q : Exit → Fm → List Res → Prop} {c : Code}
theorem thenR_entN : ∀ F2 L2 L3, Ent w0 L2 L3 → thenQ (fun F L => OKr P n w0 ro Q c F L) Q .normal F2 L3 → thenQ (fun F L => OKr P n w0 ro Q c F L) Q .normal F2 L2 := fun F2 L2 L3 e h => by
  unfold thenQ at *
  exact OKr_ent e h
theorem roundQ_entN {B : List Res} {Next : List Res → Prop} {Stop : Code → List Res → Prop} : ∀ F2 L2 L3, Ent w0 L2 L3 → roundQ w0 B Next Stop .normal F2 L3 → roundQ w0 B Next Stop .normal F2 L2 := fun F2 L2 L3 e h => by
  obtain ⟨X', e1, h1⟩ := h
  exact ⟨X', e.trans e1, h1⟩
end
end Go.Proofs.YtpknpbeiifjmgaaDoor
namespace Go.Proofs.YtpknpbeiifjmgaaDoor
open Go.RowKit
theorem kret {a b : Int} (h : a = b) : Ending.returned (.int .i64 a) = .returned (.int .i64 b) := by rw [h]
def kind (n : Int) : Int :=
  if (97 ≤ n ∧ n ≤ 122) ∨ (65 ≤ n ∧ n ≤ 90) then 1
  else if n = 94 ∨ n = 126 ∨ n = 37 then 2
  else if 48 ≤ n ∧ n ≤ 57 then 3
  else if n = 39 then 4
  else if n = 32 then 6
  else if n = 46 ∨ n = 44 ∨ n = 59 ∨ n = 58 ∨ n = 33 ∨ n = 63 ∨ n = 40 ∨ n = 41 ∨ n = 45 then 5
  else 0
theorem punct_at (n : Int) (h0 : 0 ≤ n) (h1 : n ≤ 255) : (0 ≤ Lib.indexByte [46, 44, 59, 58, 33, 63, 40, 41, 45] (UInt8.ofNat n.toNat)) ↔ (n = 46 ∨ n = 44 ∨ n = 59 ∨ n = 58 ∨ n = 33 ∨ n = 63 ∨ n = 40 ∨ n = 41 ∨ n = 45) := by
  obtain ⟨k, rfl⟩ := Int.eq_ofNat_of_zero_le h0
  have hk : k < 256 := by omega
  clear h0 h1
  have : ∀ k : Fin 256, (0 ≤ Lib.indexByte [46, 44, 59, 58, 33, 63, 40, 41, 45] (UInt8.ofNat (k.val : Int).toNat)) ↔ ((k.val : Int) = 46 ∨ (k.val : Int) = 44 ∨ (k.val : Int) = 59 ∨ (k.val : Int) = 58 ∨ (k.val : Int) = 33 ∨ (k.val : Int) = 63 ∨ (k.val : Int) = 40 ∨ (k.val : Int) = 41 ∨ (k.val : Int) = 45) := by decide +kernel
  exact this ⟨k, hk⟩
set_option maxHeartbeats 1000000 in
theorem kind_any (n : Int) (h0 : 0 ≤ n) (h1 : n ≤ 255) (w : World) :
    Calls Tryd.prog 95 #[.int .u8 n] w fun e w' => e = .returned (.int .i64 (kind n)) ∧ w = w' := by
  have HP := Lib.hid (punct_at n h0 h1)
  go_enter Tryd.func95, Tryd.ntmps95
  go_wp2_with (go_at_call 69; refine (Tryd.strings_IndexByte _ _ _).mono ?_; rintro e w' ⟨rfl, rfl⟩)
  all_goals
    go_ret
    refine ⟨kret ?_, rfl⟩
    have hp := HP.out
    try simp only [beq_iff_eq, beq_eq_false_iff_ne, bne_iff_ne, ne_eq, bne_eq_false_iff_eq] at *
    unfold kind
    first | (repeat' split) <;> omega | decide
set_option maxHeartbeats 2000000 in
theorem rkind_any (n : Int) (h0 : 0 ≤ n) (h1 : n ≤ 255) (w : World) :
    Calls Tryd.prog 82 #[.int .u8 n] w fun e w' => e = .returned (.int .i64 (kind n)) ∧ w = w' := by
  go_enter Tryd.func82, Tryd.ntmps82
  go_wp2_with fail
  all_goals
    go_ret
    refine ⟨kret ?_, rfl⟩
    try simp only [beq_iff_eq, beq_eq_false_iff_ne, ne_eq] at *
    unfold kind
    first | (repeat' split) <;> omega | decide
end Go.Proofs.YtpknpbeiifjmgaaDoor
namespace Go.Proofs.YtpknpbeiifjmgaaDoor
open Go.RowKit
abbrev byts (s : ByteArray) : List UInt8 := s.data.toList
theorem byts_len (s : ByteArray) : (byts s).length = s.size := Array.length_toList
theorem byts_at (s : ByteArray) (k : Nat) (h : k < s.size) : (byts s)[k]'(by rw [byts_len]; exact h) = s[k] := rfl
def kindB (c : UInt8) : Int := kind c.toNat
theorem byte_bd (c : UInt8) : (0 : Int) ≤ (c.toNat : Int) ∧ (c.toNat : Int) ≤ 255 := by
  have := c.toNat_lt
  omega
def alnum (c : UInt8) : Bool := kindB c == 1 || kindB c == 3
def lets (l : List UInt8) : Nat := l.countP alnum
theorem lets_take (s : ByteArray) (k : Nat) (h : k < s.size) : lets ((byts s).take (k + 1)) = lets ((byts s).take k) + if alnum s[k] then 1 else 0 := by
  unfold lets
  rw [List.take_succ_eq_append_getElem (by rw [byts_len]; exact h), List.countP_append, byts_at s k h]
  by_cases ha : alnum s[k] = true
  · simp [ha]
  · simp [ha]
theorem lets_le (l : List UInt8) : lets l ≤ l.length := List.countP_le_length
theorem kindB_any (c : UInt8) (w : World) :
    Calls Tryd.prog 95 #[.int .u8 (c.toNat : Int)] w fun e w' => e = .returned (.int .i64 (kindB c)) ∧ w = w' :=
  kind_any _ (byte_bd c).1 (byte_bd c).2 w
theorem rkindB_any (c : UInt8) (w : World) :
    Calls Tryd.prog 82 #[.int .u8 (c.toNat : Int)] w fun e w' => e = .returned (.int .i64 (kindB c)) ∧ w = w' :=
  rkind_any _ (byte_bd c).1 (byte_bd c).2 w
set_option maxHeartbeats 1000000 in
theorem letters_any (s : ByteArray) (w : World) (hs : s.size ≤ 140737488355328) :
    Calls Tryd.prog 86 #[.string s] w fun e w' => e = .returned (.int .i64 (lets (byts s) : Nat)) ∧ w = w' := by
  go_enter Tryd.func86, Tryd.ntmps86
  go_wp2
  go_loop [3, 8] (fun n i => ∃ k : Nat, k ≤ s.size ∧ i = .int .i64 k ∧ n = .int .i64 (lets ((byts s).take k) : Nat)) (fun _ i => s.size - (intOf i).toNat)
  case atStart => exact ⟨0, Nat.zero_le _, rfl, rfl⟩
  case round =>
    obtain ⟨k, hk, rfl, rfl⟩ := hrel
    have hl := lets_le ((byts s).take k)
    have hl2 : ((byts s).take k).length ≤ k := List.length_take_le _ _
    by_cases hlt : k < s.size
    · have HS := Lib.hid (lets_take s k hlt)
      have hkb : alnum s[k] = (kindB s[k] == 1 || kindB s[k] == 3) := rfl
      have HK := Lib.hid hkb
      clear hkb
      go_wp2_with (go_at_call 95; refine (kindB_any _ _).mono ?_; rintro e w' ⟨rfl, rfl⟩)
      all_goals
        go_round
        case rel =>
          refine ⟨k + 1, by omega, by go_num, ?_⟩
          rw [HS.out, HK.out]
          go_light
          clear HS HK
          by_cases h1 : kindB s[k] = 1 <;> by_cases h3 : kindB s[k] = 3 <;> simp_all
        case measure => simp [intOf];omega
    · go_wp2
      go_ret
      exact ⟨ret_int (by rw [List.take_of_length_le (by rw [byts_len];omega)]), rfl⟩
set_option maxHeartbeats 1000000 in
theorem rletters_any (s : ByteArray) (w : World) (hs : s.size ≤ 140737488355328) :
    Calls Tryd.prog 58 #[.string s] w fun e w' => e = .returned (.int .i64 (lets (byts s) : Nat)) ∧ w = w' := by
  go_enter Tryd.func58, Tryd.ntmps58
  go_wp2
  go_loop [3, 4] (fun n i => ∃ k : Nat, k ≤ s.size ∧ i = .int .i64 k ∧ n = .int .i64 (lets ((byts s).take k) : Nat)) (fun _ i => s.size - (intOf i).toNat)
  case atStart => exact ⟨0, Nat.zero_le _, rfl, rfl⟩
  case round =>
    obtain ⟨k, hk, rfl, rfl⟩ := hrel
    have hl := lets_le ((byts s).take k)
    have hl2 : ((byts s).take k).length ≤ k := List.length_take_le _ _
    by_cases hlt : k < s.size
    · have HS := Lib.hid (lets_take s k hlt)
      have hkb : alnum s[k] = (kindB s[k] == 1 || kindB s[k] == 3) := rfl
      have HK := Lib.hid hkb
      clear hkb
      go_wp2_with (go_at_call 82; refine (rkindB_any _ _).mono ?_; rintro e w' ⟨rfl, rfl⟩)
      all_goals
        go_round
        case rel =>
          refine ⟨k + 1, by omega, by go_num, ?_⟩
          rw [HS.out, HK.out]
          go_light
          clear HS HK
          by_cases h1 : kindB s[k] = 1 <;> by_cases h3 : kindB s[k] = 3 <;> simp_all
        case measure => simp [intOf];omega
    · go_wp2
      go_ret
      exact ⟨ret_int (by rw [List.take_of_length_le (by rw [byts_len];omega)]), rfl⟩
theorem toList_nil (s : ByteArray) : s.toList = [] ↔ s.size = 0 := by
  rw [ByteArray.toList_eq]
  show byts s = [] ↔ s.size = 0
  rw [← List.length_eq_zero_iff, byts_len]
def isNm (s : ByteArray) : Bool := decide (0 < s.size) && (decide (s.size ≤ 16) && decide (lets (byts s) = s.size))
set_option maxHeartbeats 1000000 in
theorem isName_any (s : ByteArray) (w : World) (hs : s.size ≤ 140737488355328) :
    Calls Tryd.prog 68 #[.string s] w fun e w' => e = .returned (.bool (isNm s)) ∧ w = w' := by
  go_enter Tryd.func68, Tryd.ntmps68
  go_wp2_with (go_at_call 86; refine (letters_any _ _ hs).mono ?_; rintro e w' ⟨rfl, rfl⟩)
  · go_ret
    refine ⟨ret_bool ?_, rfl⟩
    have h0 := (toList_nil s).1 ‹_›
    simp [isNm, h0]
  · go_ret
    refine ⟨ret_bool ?_, rfl⟩
    have h0 : ¬ s.size = 0 := fun h => absurd ((toList_nil s).2 h) ‹_›
    have h1 : (s.size : Int) ≤ 16 := ‹_›
    have h2 : s.toList.isEmpty = false := by
      cases hh : s.toList with
      | nil => exact absurd ((toList_nil s).1 hh) h0
      | cons _ _ => rfl
    rw [h2, isNm, decide_eq_true (show 0 < s.size by omega), decide_eq_true (show s.size ≤ 16 by omega)]
    simp only [Bool.true_and, Bool.not_false]
    rw [Bool.eq_iff_iff]
    simp only [beq_iff_eq, decide_eq_true_eq]
    omega
  · go_ret
    refine ⟨ret_bool ?_, rfl⟩
    have h1 : 16 < (s.size : Int) := ‹_›
    rw [isNm, decide_eq_false (show ¬ s.size ≤ 16 by omega)]
    simp
end Go.Proofs.YtpknpbeiifjmgaaDoor
