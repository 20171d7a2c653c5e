/-
  Part 16 of the proof: Ch27, Rg, It33. No statement of the seat is proved here.
-/
import Derived.Test.YthnlnffmmioapaaGreatDoorMHCl2715
namespace Go.Proofs.YthnlnffmmioapaaGreatDoor
open Go.RowKit
section
variable {P : Program} {n : Nat} {w0 : World} {K : Fm → List Res → Prop} {F : Fm} {L : List Res} {m : Md} {Lw : List Res} {ops : Array Oper} {rest : List Oper} {d : Option Nat} {ty : TypeId} {pos : String} {aft : Array Edge}
theorem Hp.setByte {B : Nat} {w : World} {L : List Res} (hp : Hp B w0 w L) (i : Nat) {g k : Nat} {b : UInt8} {s : List UInt8} (hi : L[i]? = some (.obj g (BytesW s))) (hk : k < s.length) : Hp B w0 (w.setCell ⟨g, k, .none⟩ (.int .u8 (b.toNat : Int))) (L.set i (.obj g (BytesW (s.set k b)))) := by
  obtain ⟨hB, o, ho, C, e, lo, hi', rfl, hl, hC⟩ : B ≤ g ∧ ∃ o, w.heap[g]? = some o ∧ BytesW s o := hp.ok _ (List.mem_of_getElem? hi)
  refine hp.turn hi (r' := .obj g (BytesW (s.set k b))) ⟨rfl, rfl, rfl, by simp, fun j _ hj => heap_setCell_other w ⟨g, k, .none⟩ j _ (fun e => hj (by simp [Res.blk, e]))⟩ ⟨hB, .cells (C.setIfInBounds k (.int .u8 (b.toNat : Int))) e (lo, hi'), by simp [World.setCell, Array.getElem?_modify, ho], _, _, _, _, rfl, by rw [List.length_set]; exact hl, ?_⟩ (fun j hj => .inl hj)
  intro j c hj
  have hkC : k < C.size := by
    have := hC k (s.getD k 0) (by rw [getD_lt _ _ _ hk]; exact List.getElem?_eq_getElem hk)
    exact (Array.getElem?_eq_some_iff.1 this).1
  by_cases hjk : k = j
  · subst hjk
    rw [List.getElem?_set_self hk] at hj
    cases hj
    rw [Array.getElem?_setIfInBounds_self, if_pos hkC]
  · rw [List.getElem?_set_ne hjk] at hj
    rw [Array.getElem?_setIfInBounds_ne hjk]
    exact hC j c hj
theorem Hp.setBytes {B : Nat} : ∀ (N : Nat) {w : World} {L : List Res} (_ : Hp B w0 w L) (i : Nat) {g o : Nat} {s : List UInt8} (_ : L[i]? = some (.obj g (BytesW s))) (_ : o + N ≤ s.length),
    ∃ s', s'.length = s.length ∧ s'.take o = s.take o ∧ Hp B w0 (w.setCells g o (List.replicate N (.int .u8 0))) (L.set i (.obj g (BytesW s')))
  | 0, w, L, hp, i, g, o, s, hi, ho => ⟨s, rfl, rfl, by
      have : L.set i (.obj g (BytesW s)) = L := by
        apply List.ext_getElem?
        intro j
        rw [List.getElem?_set]
        split
        · rename_i e; subst e
          split
          · exact hi.symm
          · rw [List.getElem?_eq_none (by omega)]
        · rfl
      rw [this]
      exact hp⟩
  | N + 1, w, L, hp, i, g, o, s, hi, ho => by
    have hil := (List.getElem?_eq_some_iff.1 hi).1
    have h1 := hp.setByte i (k := o) (b := 0) hi (by omega)
    obtain ⟨s', h2, h3, h4⟩ := Hp.setBytes N h1 i (g := g) (o := o + 1) (s := s.set o 0) (List.getElem?_set_self hil) (by rw [List.length_set];omega)
    refine ⟨s', by rw [h2, List.length_set], ?_, ?_⟩
    · have := congrArg (List.take o) h3
      rw [List.take_take, List.take_take, Nat.min_eq_left (by omega)] at this
      rw [this, List.take_set_of_le (Nat.le_refl _)]
    · rw [List.set_set] at h4
      exact h4
theorem OKx_clearW7 {t e bytes : Nat} {z : Value} [T : TSlice P t e 1 bytes z] [hE : Keeps w0 L Lw] (i : Nat) {x : Operand} {g o k c : Nat} {s : List UInt8} (hx : rv n F x = .slice (some ⟨g, o, none⟩) k c) (hi : L[i]? = some (.obj g (BytesW s)))
    (hz : ∀ w, (zeroValue e).run P w = .ok (.int .u8 0) w) (hk : 0 < k) (ho : o + k ≤ s.length)
    (kk : ∀ s', s'.length = s.length → s'.take o = s.take o → OKx P n w0 (.seq Lw) ops K rest (updo F d (.tuple #[])) (L.set i (.obj g (BytesW s')))) :
    OKx P n w0 (.seq Lw) ops K (⟨d, .call { callee := .builtin .clear, args := #[x], argTypes := #[t] }, ty, pos, aft, none⟩ :: rest) F L := by
  refine OKx_actW hE.ent fun w a hfr hp => ?_
  have hrun := Lib.run_clear_slice (P := P) w t e ty (.int .u8 0) T.ty.und hz rfl rfl g o k c hk (fun j hj => by rw [(hp.bytesW i hi (show o + j < s.length by omega)).1]; rfl) (fun j hj => (hp.bytesW i hi (show o + j < s.length by omega)).2)
  obtain ⟨s', h1, h2, h3⟩ := hp.setBytes k i hi ho
  have e1 : a.eval x = .slice (some ⟨g, o, none⟩) k c := by rw [hfr.eval]; exact hx
  unfold Oper.wp
  simp [execOp, resolve, invoke, builtin, e1, hrun, Result.andThen]
  exact (kk s' h1 h2).use _ _ (hfr.put d _) h3
end
theorem wrapU8 (a : Int) (h1 : 0 ≤ a) (h2 : a ≤ 255) : IntKind.u8.wrap a = a := by
  have e1 : IntKind.u8.min = 0 := rfl
  have e2 : IntKind.u8.max = 255 := rfl
  simp only [IntKind.wrap]
  simp [IntKind.signed, IntKind.bits]
  omega
theorem foldC_nat (c : UInt8) : (foldC c).toNat = if 65 ≤ c.toNat ∧ c.toNat ≤ 90 then c.toNat + 32 else c.toNat := by
  unfold foldC
  by_cases h : 65 ≤ c ∧ c ≤ 90
  · have h1 : 65 ≤ c.toNat ∧ c.toNat ≤ 90 := ⟨UInt8.le_iff_toNat_le.1 h.1, UInt8.le_iff_toNat_le.1 h.2⟩
    rw [if_pos h, if_pos h1, UInt8.toNat_add]
    show (c.toNat + 32) % 256 = _
    omega
  · have h1 : ¬(65 ≤ c.toNat ∧ c.toNat ≤ 90) := fun h1 => h ⟨UInt8.le_iff_toNat_le.2 h1.1, UInt8.le_iff_toNat_le.2 h1.2⟩
    rw [if_neg h, if_neg h1]
def fldK (s : List UInt8) (k : Nat) : List UInt8 := (s.take k).map foldC ++ s.drop k
theorem fldK_len (s : List UInt8) (k : Nat) : (fldK s k).length = s.length := by unfold fldK; simp;omega
theorem fldK_at (s : List UInt8) (k : Nat) (h : k < s.length) : (fldK s k).getD k 0 = s.getD k 0 := by
  unfold fldK
  rw [List.getD_eq_getElem?_getD, List.getElem?_append_right (by simp;omega), List.getD_eq_getElem?_getD]
  simp [Nat.min_eq_left (Nat.le_of_lt h)]
theorem fldK_step (s : List UInt8) (k : Nat) (h : k < s.length) : (fldK s k).set k (foldC (s.getD k 0)) = fldK s (k + 1) := by
  unfold fldK
  have hl : ((s.take k).map foldC).length = k := by simp;omega
  rw [List.take_succ_eq_append_getElem h, List.map_append, List.set_append, if_neg (by omega), hl, List.drop_eq_getElem_cons h, Nat.sub_self, List.set_cons_zero, getD_lt _ _ _ h, List.append_assoc]
  rfl
theorem fldK_same (s : List UInt8) (k : Nat) (h : k < s.length) (hc : foldC (s.getD k 0) = s.getD k 0) : fldK s k = fldK s (k + 1) := by
  rw [← fldK_step s k h, hc, ← fldK_at s k h]
  rw [List.getD_eq_getElem?_getD, List.getElem?_eq_getElem (by rw [fldK_len]; exact h)]
  simp
set_option maxRecDepth 100000 in
set_option maxHeartbeats 4000000 in
theorem Fold_sat (s : List UInt8) (w : World) (hs : s.length ≤ 140737488355328) : SatV Tryz.prog 184 [.string (bOf s)] w (.string (bOf (s.map foldC))) := by
  refine SatL.of 30 [2] Tryz.func184 (by kernel_rfl) (by kernel_rfl) rfl rfl rfl rfl ?_
  repeat' (first|(apply OK_seq)|(apply thenQ_n)|(apply OK_region)|(refine OKx_convSW rfl (by kernel_rfl) Tryz.underlying92 (by kernel_rfl) ?_; intro g c hc)|(apply OKx_nilK)|(apply OK_block)|(apply OKx_move;(conv=>lhs;whnf)<;>exact rfl)|(apply OKx_assign;(conv=>lhs;whnf)<;>exact rfl)|(apply OKx_len;exact rfl))
  refine OK_loop1 10 [4, 5, 10, 11, 12, 13, 14, 15, 16, 17, 18, 19, 20, 21, 22, 23, 24, 25, 26, 27] (fun m v L => ∃ k : Nat, k + m = s.length ∧ v = .int .i64 (k : Int) ∧ L = [.obj g (BytesW (fldK s k))]) s.length _ (Ent.refl _ _) ⟨0, by omega, rfl, rfl⟩ ?_
  rintro m v L G ⟨k, hm, rfl, rfl⟩
  have hl := fldK_len s k
  by_cases hk : k < s.length
  · have hat := fldK_at s k hk
    have hfn := foldC_nat (s.getD k 0)
    have hbd : (s.getD k 0).toNat < 256 := UInt8.toNat_lt _
    by_cases hu : 65 ≤ (s.getD k 0).toNat ∧ (s.getD k 0).toNat ≤ 90
    · rw [if_pos hu] at hfn
      have hsub : IntKind.u8.wrap (((s.getD k 0).toNat : Int) - 65) = ((s.getD k 0).toNat : Int) - 65 := wrapU8 _ (by omega) (by omega)
      have hadd : IntKind.u8.wrap (((s.getD k 0).toNat : Int) - 65 + 97) = ((foldC (s.getD k 0)).toNat : Int) := by rw [wrapU8 _ (by omega) (by omega), hfn];omega
      repeat' (first|(apply OK_seq)|(apply thenQ_n)|(apply OK_region)|(apply OKx_gl; refine OKx_ldW7 (k := k) 0 rfl rfl (by omega) ?_; rw [hat])|(refine OKx_subK rfl rfl hsub ?_)|(refine OKx_addK (k := .u8) rfl rfl hadd ?_)|(apply OKx_gs; refine OKx_stW7 (k := k) (b := foldC (s.getD k 0)) 0 rfl rfl rfl (by omega) ?_; rw [List.set_cons_zero, fldK_step s k hk])|(apply OKx_nilK)|(apply OK_block)|(apply blockQ_n)|(apply OK_condT;exact rfl)|(apply OK_skip)|(apply OKx_move;(conv=>lhs;whnf)<;>exact rfl)|(apply OKx_assign;(conv=>lhs;whnf)<;>exact rfl)|(apply OKx_lss;exact rfl;exact rfl;all_goals (intro _; try (exfalso;omega)))|(apply OKx_leq;exact rfl;exact rfl;all_goals (intro _; try (exfalso;omega)))|(apply OKx_geq;exact rfl;exact rfl;all_goals (intro _; try (exfalso;omega)))|(apply OKx_idxO;exact rfl;exact rfl;omega)|(apply OKx_inc;exact rfl;exact rfl;omega)|(apply OKx_pickT;exact rfl;(conv=>lhs;whnf)<;>exact rfl)|(apply OKx_guardT;exact rfl;exact rfl))
      all_goals (try (exfalso;omega))
      refine ⟨by (repeat' (first | refine agree_upd rfl ?_ | exact agree_over | exact agree_refl _ _ | refine agree_over2 rfl ?_)), m - 1, _, by omega, Ent.refl _ _, ?_⟩
      exact ⟨k + 1, by omega, rfl, rfl⟩
    · rw [if_neg hu] at hfn
      have hsame := fldK_same s k hk (UInt8.toNat_inj.1 hfn)
      repeat' (first|(apply OK_seq)|(apply thenQ_n)|(apply OK_region)|(apply OKx_gl; refine OKx_ldW7 (k := k) 0 rfl rfl (by omega) ?_; rw [hat])|(apply OKx_nilK)|(apply OK_block)|(apply blockQ_n)|(apply OK_condT;exact rfl)|(apply OK_condF;exact rfl)|(apply OK_skip)|(apply OKx_move;(conv=>lhs;whnf)<;>exact rfl)|(apply OKx_assign;(conv=>lhs;whnf)<;>exact rfl)|(apply OKx_lss;exact rfl;exact rfl;all_goals (intro _; try (exfalso;omega)))|(apply OKx_leq;exact rfl;exact rfl;all_goals (intro _; try (exfalso;omega)))|(apply OKx_geq;exact rfl;exact rfl;all_goals (intro _; try (exfalso;omega)))|(apply OKx_idxO;exact rfl;exact rfl;omega)|(apply OKx_inc;exact rfl;exact rfl;omega)|(apply OKx_pickT;exact rfl;(conv=>lhs;whnf)<;>exact rfl)|(apply OKx_pickF;exact rfl;(conv=>lhs;whnf)<;>exact rfl)|(apply OKx_guardT;exact rfl;exact rfl)|(apply OKx_guardF;exact rfl;exact rfl))
      all_goals (try (exfalso;omega))
      all_goals
        refine ⟨by (repeat' (first | refine agree_upd rfl ?_ | exact agree_over | exact agree_refl _ _ | refine agree_over2 rfl ?_)), m - 1, _, by omega, Ent.refl _ _, ?_⟩
        exact ⟨k + 1, by omega, rfl, by rw [hsame]⟩
  · obtain rfl : k = s.length := by omega
    have he : fldK s s.length = s.map foldC := by unfold fldK; rw [List.take_length, List.drop_length, List.append_nil]
    rw [he]
    repeat' (first|(apply OK_seq)|(apply thenQ_n)|(apply OK_region)|(refine OKx_convWS 0 rfl (by simp) rfl Tryz.underlying92 (by kernel_rfl) (by kernel_rfl) ?_)|(apply OKx_nilK)|(apply blockQ_s)|(apply thenQ_e)|(apply OK_condF;exact rfl)|(apply OK_exit)|(apply OK_ret)|(apply OKx_move;(conv=>lhs;whnf)<;>exact rfl)|(apply OKx_assign;(conv=>lhs;whnf)<;>exact rfl)|(apply OKx_lss;exact rfl;exact rfl;all_goals (intro _; try (exfalso;omega))))
    refine bodyQ_r1 (by ((conv=>lhs;whnf)<;>exact rfl)) ?_
    exact ⟨_, Ent.nil, rfl, rfl⟩
def mkC (c : UInt8) : Bool := decide (kindB c = 2)
set_option maxRecDepth 100000 in
set_option maxHeartbeats 4000000 in
theorem plain1_sat (c : UInt8) (w : World) : SatV Tryz.prog 195 [.int .u8 (c.toNat : Int)] w (.bool (mkC c)) := by
  have hk := fun w1 => kind_sat c w1
  unfold mkC kindB
  refine SatL.of 6 [2] Tryz.func195 (by kernel_rfl) (by kernel_rfl) rfl rfl rfl rfl ?_
  repeat' (first|(apply OK_seq)|(apply thenQ_n)|(apply OK_region)|(apply OKx_gc 104;exact rfl; refine OKx_callV (f := 104) rfl rfl rfl (fun w1 hp => hk w1) ?_)|(apply OKx_nilK)|(apply OK_ret)|(apply OKx_move;(conv=>lhs;whnf)<;>exact rfl)|(apply OKx_assign;(conv=>lhs;whnf)<;>exact rfl)|(apply OKx_eql;exact rfl;exact rfl;all_goals (intro _; try (exfalso;omega))))
  all_goals
    refine bodyQ_r1 (by ((conv=>lhs;whnf)<;>exact rfl)) ?_
    refine ⟨_, Ent.nil, bool_eq ?_, rfl⟩
  all_goals first
    | rw [decide_eq_true (by assumption)]
    | rw [decide_eq_false (by assumption)]
def kpK (s : List UInt8) (k : Nat) : List UInt8 := (s.take k).filter fun c => !mkC c
theorem kpK_le (s : List UInt8) (k : Nat) : (kpK s k).length ≤ k := Nat.le_trans (List.length_filter_le _ _) (by rw [List.length_take];omega)
theorem kpK_step (s : List UInt8) (k : Nat) (h : k < s.length) : kpK s (k + 1) = kpK s k ++ if mkC (s.getD k 0) = true then [] else [s.getD k 0] := by
  unfold kpK
  rw [List.take_succ_eq_append_getElem h, List.filter_append, getD_lt _ _ _ h]
  cases hm : mkC s[k] <;> simp [hm]
theorem kpK_none (s : List UInt8) (k : Nat) (hk : k ≤ s.length) (h : ∀ j, j < k → mkC (s.getD j 0) = false) : kpK s k = s.take k := by
  unfold kpK
  rw [List.filter_eq_self]
  intro a ha
  obtain ⟨j, hj, rfl⟩ := List.getElem_of_mem ha
  have hj' : j < k := by rw [List.length_take] at hj;omega
  have := h j hj'
  rw [getD_lt _ _ _ (by omega)] at this
  rw [List.getElem_take, this]
  rfl
def FstR (p : Nat → Bool) (N : Nat) (u : Value) (L : List Res) : Prop := L = [] ∧ ((u = .int .i64 (-1) ∧ ∀ j, j < N → p j = false) ∨ ∃ k : Nat, k < N ∧ u = .int .i64 (k : Int) ∧ p k = true ∧ ∀ j, j < k → p j = false)
set_option maxRecDepth 100000 in
set_option maxHeartbeats 4000000 in
theorem indexF_byte2_sat (v : Value) (N : Nat) (e : Nat → Value) (p : Nat → Bool) (g : FuncId) (cs : Array Value) (w : World) (h : Sl w v 1 N e) (hf : ∀ k, k < N → ∀ w1, Below w.heap.size w w1 → SatV Tryz.prog g (e k :: cs.toList) w1 (.bool (p k))) :
    Sat Tryz.prog 212 [v, .func (.func g) #[] cs] w (FstR p N) := by
  have hN := h.bound
  refine SatL.of 19 [4] Tryz.func212 (by kernel_rfl) (by kernel_rfl) rfl rfl rfl rfl ?_
  repeat' (first|(apply OK_seq)|(apply thenQ_n)|(apply OK_region)|(apply OKx_nilK)|(apply OK_block)|(apply OKx_move;(conv=>lhs;whnf)<;>exact rfl)|(apply OKx_assign;(conv=>lhs;whnf)<;>exact rfl)|(apply OKx_lenR;(conv=>lhs;whnf)<;>exact rfl;(with_reducible assumption)))
  refine OK_loop1 8 [4, 5, 8, 9, 10, 11, 12, 13, 14, 15, 16, 17, 18] (fun m v L => ∃ k : Nat, k + m = N ∧ v = .int .i64 (k : Int) ∧ (∀ j, j < k → p j = false) ∧ L = []) N [] (Ent.refl _ _) ⟨0, by omega, rfl, fun j hj => absurd hj (by omega), rfl⟩ ?_
  rintro m v' L G ⟨k, hm, rfl, H, rfl⟩
  repeat' (first|(apply OK_seq)|(apply thenQ_n)|(apply OK_region)|(refine OKx_callB (f := g) rfl rfl rfl (fun w hp => hf k (by omega) w hp.below) ?_ ?_ <;> intro hq)|(apply OKx_nilK)|(apply OK_block)|(apply blockQ_n)|(apply blockQ_s)|(apply thenQ_e)|(apply thenQ_r)|(apply blockQ_r)|(apply OK_condT;exact rfl)|(apply OK_condF;exact rfl)|(apply OK_skip)|(apply OK_exit)|(apply OK_ret)|(apply OKx_move;(conv=>lhs;whnf)<;>exact rfl)|(apply OKx_assign;(conv=>lhs;whnf)<;>exact rfl)|(apply OKx_ldR;(conv=>lhs;whnf)<;>exact rfl;(with_reducible assumption))|(apply OKx_lss;exact rfl;exact rfl;all_goals (intro _; try (exfalso;omega)))|(apply OKx_idxR;(conv=>lhs;whnf)<;>exact rfl;(with_reducible assumption);exact rfl;omega;intro _ _)|(apply OKx_inc;exact rfl;exact rfl;omega))
  · refine bodyQ_r1 (by ((conv=>lhs;whnf)<;>exact rfl)) ?_
    exact ⟨_, Ent.refl _ _, rfl, .inr ⟨k, by omega, rfl, hq, H⟩⟩
  · refine ⟨by (repeat' (first | refine agree_upd rfl ?_ | exact agree_over | exact agree_refl _ _ | refine agree_over2 rfl ?_)), m - 1, _, by omega, Ent.refl _ _, ?_⟩
    refine ⟨k + 1, by omega, rfl, fun j hj => ?_, rfl⟩
    by_cases hjk : j < k
    · exact H j hjk
    · obtain rfl : j = k := by omega
      exact hq
  · refine bodyQ_r1 (by ((conv=>lhs;whnf)<;>exact rfl)) ?_
    exact ⟨_, Ent.refl _ _, rfl, .inl ⟨rfl, fun j hj => H j (by omega)⟩⟩
theorem take_set_lt {α : Type} (l : List α) (i : Nat) (a : α) (h : i < l.length) : (l.set i a).take (i + 1) = l.take i ++ [a] := by
  rw [List.take_succ_eq_append_getElem (by simpa using h), List.take_set_of_le (Nat.le_refl _)]
  simp
set_option maxRecDepth 100000 in
set_option maxHeartbeats 4000000 in
theorem deleteF_sat (g c : Nat) (s : List UInt8) (Z : List Res) (w : World) (hs : s.length ≤ 140737488355328) (hc : s.length ≤ c) :
    SatL Tryz.prog 194 [.slice (some ⟨g, 0, none⟩) s.length c, .func (.func 195) #[] #[]] w (.obj g (BytesW s) :: Z) (fun u L => ∃ s', u = .slice (some ⟨g, 0, none⟩) (kpK s s.length).length c ∧ s'.take (kpK s s.length).length = kpK s s.length ∧ L = .obj g (BytesW s') :: Z) := by
  have hF : ∀ w1, Hp w.heap.size w w1 (.obj g (BytesW s) :: Z) → Sat Tryz.prog 212 [.slice (some ⟨g, 0, none⟩) s.length c, .func (.func 195) #[] #[]] w1 (FstR (fun j => mkC (s.getD j 0)) s.length) := fun w1 hp =>
    indexF_byte2_sat _ s.length _ (fun j => mkC (s.getD j 0)) 195 #[] w1 (hp.bytesSl 0 rfl hc hs) (fun k hk w2 hb => plain1_sat _ w2)
  refine SatL.of 42 [4] Tryz.func194 (by kernel_rfl) (by kernel_rfl) rfl rfl rfl rfl ?_
  repeat' (first|(apply OK_seq)|(apply thenQ_n)|(apply OK_region)|(apply OKx_gc 212;exact rfl; refine OKx_call (f := 212) rfl rfl (fun w1 hp => hF w1 hp) ?_; rintro _ _ ⟨rfl, (⟨rfl, hn⟩ | ⟨i0, hi0, rfl, hp0, hb0⟩)⟩ <;> rw [List.nil_append])|(apply OKx_nilK)|(apply OK_block)|(apply thenQ_r)|(apply OK_condT;exact rfl)|(apply OK_condF;exact rfl)|(apply OK_skip)|(apply OK_ret)|(apply OKx_move;(conv=>lhs;whnf)<;>exact rfl)|(apply OKx_assign;(conv=>lhs;whnf)<;>exact rfl)|(apply OKx_eql;exact rfl;exact rfl;all_goals (intro _; try (exfalso;omega)))|(apply OKx_inc;exact rfl;exact rfl;omega))
  all_goals (try (exfalso;omega))
  · refine bodyQ_r1 (by ((conv=>lhs;whnf)<;>exact rfl)) ?_
    have hk := kpK_none s s.length (Nat.le_refl _) hn
    rw [List.take_length] at hk
    rw [hk]
    exact ⟨_, Ent.refl _ _, s, rfl, List.take_length, rfl⟩
  have hk0 := kpK_none s i0 (by omega) hb0
  have hk1 := kpK_step s i0 hi0
  rw [if_pos hp0, List.append_nil, hk0] at hk1
  refine OK_loop2 5 6 [5, 6, 7, 16, 17, 18, 19, 20, 21, 22, 23, 24, 25, 26, 27, 28, 29, 30, 31, 32, 33, 34, 35] (fun m v1 v2 L => ∃ (j : Nat) (us : List UInt8), j + m = s.length ∧ us.length = s.length ∧ (kpK s j).length < j ∧ us.take (kpK s j).length = kpK s j ∧ (∀ p, j ≤ p → us.getD p 0 = s.getD p 0) ∧ v1 = .int .i64 ((kpK s j).length : Int) ∧ v2 = .int .i64 (j : Int) ∧ L = .obj g (BytesW us) :: Z) (s.length - (i0 + 1)) _ (Ent.refl _ _) ⟨i0 + 1, s, by omega, rfl, ?_, ?_, fun p _ => rfl, ?_, rfl, rfl⟩ ?_
  · rw [hk1, List.length_take];omega
  · rw [hk1, List.length_take, Nat.min_eq_left (by omega)]
  · rw [hk1, List.length_take, Nat.min_eq_left (by omega)]; rfl
  rintro m v1 v2 L G ⟨j, us, hm, hul, hlt, htk, hun, rfl, rfl, rfl⟩
  have hst := kpK_step s j
  by_cases hj : j < s.length
  · have hst := hst hj
    have hat := hun j (Nat.le_refl _)
    have hP := fun w1 => plain1_sat (s.getD j 0) w1
    cases hmk : mkC (s.getD j 0) <;> rw [hmk] at hP hst
    · have hkl : (kpK s (j + 1)).length = (kpK s j).length + 1 := by rw [hst]; simp
      repeat' (first|(apply OK_seq)|(apply thenQ_n)|(apply OK_region)|(apply OKx_gl; refine OKx_ldW7 (k := j) 0 rfl rfl (by omega) ?_; rw [hat])|(apply OKx_gc 195;exact rfl; refine OKx_callV (f := 195) rfl rfl rfl (fun w1 hp => hP w1) ?_)|(apply OKx_gs; refine OKx_stW7 (k := (kpK s j).length) (b := s.getD j 0) 0 rfl rfl rfl (by omega) ?_; rw [List.set_cons_zero])|(apply OKx_nilK)|(apply OK_block)|(apply blockQ_n)|(apply OK_condT;exact rfl)|(apply OK_skip)|(apply OKx_move;(conv=>lhs;whnf)<;>exact rfl)|(apply OKx_assign;(conv=>lhs;whnf)<;>exact rfl)|(apply OKx_len;exact rfl)|(apply OKx_lss;exact rfl;exact rfl;all_goals (intro _; try (exfalso;omega)))|(apply OKx_idxO;exact rfl;exact rfl;omega)|(apply OKx_inc;exact rfl;exact rfl;omega)|(apply OKx_notF;exact rfl))
      refine ⟨by (repeat' (first | refine agree_upd rfl ?_ | exact agree_over | exact agree_refl _ _ | refine agree_over2 rfl ?_)), m - 1, _, by omega, Ent.refl _ _, ?_⟩
      refine ⟨j + 1, _, by omega, by rw [List.length_set]; exact hul, by omega, ?_, fun p hp => ?_, int_eq (by omega), rfl, rfl⟩
      · rw [hkl, take_set_lt _ _ _ (by omega), htk, hst]; rfl
      · rw [setD _ _ _ _ (by omega), if_neg (by omega)]
        exact hun p (by omega)
    · have hkl : kpK s (j + 1) = kpK s j := by rw [hst]; simp
      repeat' (first|(apply OK_seq)|(apply thenQ_n)|(apply OK_region)|(apply OKx_gl; refine OKx_ldW7 (k := j) 0 rfl rfl (by omega) ?_; rw [hat])|(apply OKx_gc 195;exact rfl; refine OKx_callV (f := 195) rfl rfl rfl (fun w1 hp => hP w1) ?_)|(apply OKx_nilK)|(apply OK_block)|(apply blockQ_n)|(apply OK_condT;exact rfl)|(apply OK_condF;exact rfl)|(apply OK_skip)|(apply OKx_move;(conv=>lhs;whnf)<;>exact rfl)|(apply OKx_assign;(conv=>lhs;whnf)<;>exact rfl)|(apply OKx_len;exact rfl)|(apply OKx_lss;exact rfl;exact rfl;all_goals (intro _; try (exfalso;omega)))|(apply OKx_idxO;exact rfl;exact rfl;omega)|(apply OKx_inc;exact rfl;exact rfl;omega)|(apply OKx_notT;exact rfl))
      refine ⟨by (repeat' (first | refine agree_upd rfl ?_ | exact agree_over | exact agree_refl _ _ | refine agree_over2 rfl ?_)), m - 1, _, by omega, Ent.refl _ _, ?_⟩
      refine ⟨j + 1, us, by omega, hul, by rw [hkl];omega, by rw [hkl]; exact htk, fun p hp => hun p (by omega), int_eq (by rw [hkl]), rfl, rfl⟩
  · obtain rfl : j = s.length := by omega
    repeat' (first|(apply OK_seq)|(apply thenQ_n)|(apply OK_region)|(refine OKx_slL rfl rfl (by omega) ?_; intro o' ho'; obtain rfl := ho' (by omega); rw [Nat.zero_add, Nat.mul_one])|(refine OKx_clearW7 0 rfl rfl (fun w => by kernel_rfl) (by omega) (by omega) ?_; intro s2 hs2 ht2; rw [List.set_cons_zero])|(refine OKx_slH rfl rfl (by omega) ?_)|(apply OKx_nilK)|(apply blockQ_s)|(apply thenQ_e)|(apply OK_condF;exact rfl)|(apply OK_exit)|(apply OK_ret)|(apply OKx_move;(conv=>lhs;whnf)<;>exact rfl)|(apply OKx_assign;(conv=>lhs;whnf)<;>exact rfl)|(apply OKx_len;exact rfl)|(apply OKx_lss;exact rfl;exact rfl;all_goals (intro _; try (exfalso;omega))))
    refine bodyQ_r1 (by ((conv=>lhs;whnf)<;>exact rfl)) ?_
    refine ⟨_, Ent.refl _ _, s2, rfl, ?_, rfl⟩
    exact ht2.trans htk
theorem Ent.objW {w0 : World} {g : Nat} {p q : Obj → Prop} {Z : List Res} (h : ∀ o, p o → q o) : Ent w0 (.obj g p :: Z) (.obj g q :: Z) := Ent.mk fun w hp => by
  obtain ⟨hB, o, ho, hpo⟩ : w0.heap.size ≤ g ∧ ∃ o, w.heap[g]? = some o ∧ p o := hp.ok _ (List.mem_of_getElem? (i := 0) rfl)
  exact hp.turn (i := 0) rfl (r' := .obj g q) ⟨rfl, rfl, rfl, Nat.le_refl _, fun j _ _ => rfl⟩ ⟨hB, o, ho, h o hpo⟩ (fun k hk => .inl hk)
theorem BytesW.take {s : List UInt8} {o : Obj} (k : Nat) (h : BytesW s o) : BytesW (s.take k) o := by
  obtain ⟨C, e, lo, hi, rfl, hl, hC⟩ := h
  refine ⟨C, e, lo, hi, rfl, by rw [List.length_take];omega, fun j b hj => hC j b ?_⟩
  rw [List.getElem?_take] at hj
  split at hj
  · exact hj
  · cases hj
set_option maxRecDepth 100000 in
set_option maxHeartbeats 4000000 in
theorem Plain_sat (s : List UInt8) (w : World) (hs : s.length ≤ 140737488355328) : SatV Tryz.prog 185 [.string (bOf s)] w (.string (bOf (s.filter fun c => !mkC c))) := by
  have hk : kpK s s.length = s.filter fun c => !mkC c := by unfold kpK; rw [List.take_length]
  refine SatL.of 7 [2] Tryz.func185 (by kernel_rfl) (by kernel_rfl) rfl rfl rfl rfl ?_
  repeat' (first|(apply OK_seq)|(apply thenQ_n)|(apply OK_region)|(refine OKx_convSW rfl (by kernel_rfl) Tryz.underlying92 (by kernel_rfl) ?_; intro g c hc)|(apply OKx_gc 194;exact rfl; refine OKx_callL (f := 194) rfl rfl (deleteF_sat g c s [] w hs hc) ?_; rintro _ _ ⟨s2, rfl, ht, rfl⟩; refine OKx_ent (Ent.objW (q := BytesW (kpK s s.length)) (fun o h => by have := BytesW.take (kpK s s.length).length h; rwa [ht] at this)) ?_)|(refine OKx_convWS 0 rfl rfl rfl Tryz.underlying92 (by kernel_rfl) (by kernel_rfl) ?_)|(apply OKx_nilK)|(apply OK_ret)|(apply OKx_move;(conv=>lhs;whnf)<;>exact rfl)|(apply OKx_assign;(conv=>lhs;whnf)<;>exact rfl))
  refine bodyQ_r1 (by ((conv=>lhs;whnf)<;>exact rfl)) ?_
  exact ⟨_, Ent.nil, by rw [hk], rfl⟩
set_option maxRecDepth 100000 in
set_option maxHeartbeats 4000000 in
theorem simple_sat (s : ByteArray) (w : World) (hs : s.size ≤ 140737488355328) : SatV Tryz.prog 176 [.string s] w (.string (bOf (simL (byts s)))) := by
  have hl := byts_len s
  have hp := fun w1 => Plain_sat (byts s) w1 (by omega)
  rw [show bOf (byts s) = s from bOf_data s] at hp
  have hf := fun w1 => Fold_sat ((byts s).filter fun c => !mkC c) w1 (Nat.le_trans (List.length_filter_le _ _) (by omega))
  refine SatL.of 6 [2] Tryz.func176 (by kernel_rfl) (by kernel_rfl) rfl rfl rfl rfl ?_
  repeat' (first|(apply OK_seq)|(apply thenQ_n)|(apply OK_region)|(apply OKx_gc 185;exact rfl; refine OKx_callV (f := 185) rfl rfl rfl (fun w1 _ => hp w1) ?_)|(apply OKx_gc 184;exact rfl; refine OKx_callV (f := 184) rfl rfl rfl (fun w1 _ => hf w1) ?_)|(apply OKx_nilK)|(apply OK_ret)|(apply OKx_move;(conv=>lhs;whnf)<;>exact rfl)|(apply OKx_assign;(conv=>lhs;whnf)<;>exact rfl))
  refine bodyQ_r1 (by ((conv=>lhs;whnf)<;>exact rfl)) ?_
  exact ⟨_, Ent.nil, rfl, rfl⟩
end Go.Proofs.YthnlnffmmioapaaGreatDoor
namespace Go.Proofs.YthnlnffmmioapaaGreatDoor
open Go.RowKit
def resetD (F : Fm) : Fm
  | some i => F (some i)
  | none => undef
def putsF : Fm → List Nat → List Value → Fm
  | F, p :: ps, v :: vs => putsF (upd F p v) ps vs
  | F, _, _ => F
def pushD (F : Fm) (D : Nat) : Fm
  | some i => F (some i)
  | none => .tuple (#[.pointer (some ⟨D, 0, none⟩)] ++ match F none with
    | .tuple vs => vs
    | _ => #[])
theorem marks_push (F : Fm) (D : Nat) : marksV (pushD F D none) = { target := .collected D, args := #[] } :: marksV (F none) := by
  unfold pushD
  cases h : F none <;> simp [marksV]
theorem Fr.reset {n : Nat} {a : Act} {F : Fm} (h : Fr n a F) : Fr n { a with defers := [] } (resetD F) := ⟨rfl, h.size, h.at'⟩
theorem Fr.puts {n : Nat} : ∀ (ps : List Nat) (vs : List Value) {tmps : Array Value} {F : Fm}, Fr n { tmps := tmps, defers := [] } F → vs.length = ps.length →
    Fr n { tmps := (ps.zip vs).foldl (fun t x => t.setIfInBounds x.1 x.2) tmps, defers := [] } (putsF F ps vs)
  | [], [], _, _, h, _ => h
  | p :: ps, v :: vs, tmps, F, h, hl => by
    have h1 := h.put (some p) v
    exact Fr.puts ps vs h1 (by simpa using hl)
  | [], _ :: _, _, _, _, hl => by simp at hl
  | _ :: _, [], _, _, _, hl => by simp at hl
section
variable {P : Program} {n : Nat} {w0 : World} {Q : Exit → Fm → List Res → Prop} {F : Fm} {L : List Res}
def roundQ (w0 : World) (B : List Res) (Next : List Res → Prop) (Stop : Code → List Res → Prop) : Exit → Fm → List Res → Prop
  | .normal, _, L => ∃ X', Ent w0 L (X' ++ B) ∧ Next X'
  | .ret, _, L => ∃ X', Ent w0 L (X' ++ B) ∧ Stop .ret X'
  | .exit id, _, L => ∃ X', Ent w0 L (X' ++ B) ∧ Stop (.exit id) X'
  | _, _, _ => False
def assignQ (P : Program) (n : Nat) (w0 : World) (ro : Nat) (B B' : List Res) (body : Code) (Next : List Res → Prop) (Stop : Code → List Res → Prop) : Exit → Fm → List Res → Prop
  | .normal, F, L => ∃ Y, Ent w0 L (Y ++ B) ∧ OKr P n w0 ro (roundQ w0 B' Next Stop) body F (Y ++ B')
  | _, _, _ => False
theorem Hp.putTail {B : Nat} {w : World} {X : List Res} {l D : Nat} {p p' : Obj → Prop} {o : Obj} (h : Hp B w0 w (X ++ [.obj l p, .mark D])) (ho : p' o) : Hp B w0 (w.putObj l o) (X ++ [.obj l p', .mark D]) := by
  have hi : (X ++ [Res.obj l p, .mark D])[X.length]? = some (.obj l p) := by
    rw [List.getElem?_append_right (Nat.le_refl _), Nat.sub_self]; rfl
  have hok := h.ok _ (List.mem_of_getElem? hi)
  have hlt := (hok.lt (k := l) rfl).2
  have := h.turn hi (w' := w.putObj l o) (r' := .obj l p') (grownBy_putObj' w l o) ⟨hok.1, o, World.putObj_heap_same hlt, ho⟩ (fun k hk => .inl hk)
  rwa [List.set_append_right _ _ (Nat.le_refl _), Nat.sub_self] at this
theorem OK_rangeFunc {σ : Type} (Rs : σ → List Res) {g : Operand} {ps : List Nat} {assign body : Code} {gf : FuncId} {lb : List Value} (hg : rv n F g = .func (.func gf) #[] lb.toArray) (he : Enters' P gf)
    (Good : σ → List Value → Prop) (Next : σ → List Value → List Res → Prop) (Stop : σ → List Value → Code → List Res → Prop) (Done : List Res → Prop) (StopD : Code → List Res → Prop)
    (hps : ∀ x av, Good x av → av.length = ps.length)
    (hiter : ∀ (y : Nat) (Br : List Res) (Bd : Code → List Res), (∀ x av, Good x av → SatY P y av w0 (Rs x ++ Br) (fun u L' => (u = .bool true ∧ ∃ X', Next x av X' ∧ L' = X' ++ Br) ∨ (u = .bool false ∧ ∃ c X', Stop x av c X' ∧ L' = X' ++ Bd c))) →
      SatL P gf (.func (.yield y) #[] #[] :: lb) w0 (L ++ Br) (fun _ L' => (∃ X', Done X' ∧ L' = X' ++ Br) ∨ (∃ c X', StopD c X' ∧ L' = X' ++ Bd c)))
    (hbody : ∀ (ro : Nat) (B B' : List Res) x av, Good x av → OKr P n w0 ro (assignQ P n w0 ro B B' body (Next x av) (Stop x av)) assign (putsF (resetD F) ps av) (Rs x ++ B))
    (hdone : ∀ D X', Done X' → Q .normal (pushD F D) (.mark D :: X'))
    (hstop : ∀ D c X', StopD c X' → (c = .ret ∧ Q .ret (pushD F D) (.mark D :: X')) ∨ ∃ id, c = .exit id ∧ Q (.exit id) (pushD F D) (.mark D :: X')) :
    OK P n w0 Q (.rangeFunc g ps.toArray assign body) F L := by
  refine OK.mk' fun w a hf hp => (wpIn_wide (n := 0)).1 (wpIn_rangeFunc fun fn _ => ?_)
  obtain ⟨rec, hrec⟩ : ∃ rec : Loop, rec = { state := .ready, pending := none, fn, tmps := a.tmps, params := ps.toArray, assign, body, defers := w.heap.size } := ⟨_, rfl⟩
  have hst : rec.state = .ready := by rw [hrec]
  have hpe : rec.pending = none := by rw [hrec]
  have hself : { rec with state := .ready, pending := none } = rec := by rw [hrec]
  let pr : Obj → Prop := fun o => o = .loop rec
  let pb : Obj → Prop := fun o => o = .loop { rec with state := .busy }
  let pd : Code → Obj → Prop := fun c o => o = .loop { rec with state := .done, pending := some c }
  let Br : List Res := [.obj (w.heap.size + 1) pr, .mark w.heap.size]
  let Bb : List Res := [.obj (w.heap.size + 1) pb, .mark w.heap.size]
  let Bd : Code → List Res := fun c => [.obj (w.heap.size + 1) (pd c), .mark w.heap.size]
  obtain ⟨w1, hw1⟩ : ∃ w1, w1 = (w.alloc (.deferred (some []))).alloc (.loop rec) := ⟨_, rfl⟩
  have hp1 : Hp w0.heap.size w0 w1 (L ++ Br) := by
    have h1 : Hp w0.heap.size w0 (w.alloc (.deferred (some []))) (.mark w.heap.size :: L) :=
      hp.fresh (r := .mark w.heap.size) ⟨hp.base, heap_alloc_new w _⟩ ((Below.refl _ _).alloc (Nat.le_refl _) _) (fun k hk => by simp [Res.blk] at hk;omega)
    have h2 : Hp w0.heap.size w0 w1 (.obj (w.heap.size + 1) pr :: .mark w.heap.size :: L) := by
      rw [hw1]
      have hsz : (w.alloc (.deferred (some []))).heap.size = w.heap.size + 1 := by simp
      refine h1.fresh (r := .obj (w.heap.size + 1) pr) ⟨by have := hp.base;omega, .loop rec, ?_, rfl⟩ ((Below.refl _ _).alloc (Nat.le_refl _) _) (fun k hk => by simp [Res.blk] at hk;omega)
      have := heap_alloc_new (w.alloc (.deferred (some []))) (.loop rec)
      rwa [hsz] at this
    exact h2.perm (List.perm_append_comm (l₁ := L) (l₂ := Br))
  have hl_of : ∀ {X : List Res} {w2 : World} {p : Obj → Prop}, Hp w0.heap.size w0 w2 (X ++ [.obj (w.heap.size + 1) p, .mark w.heap.size]) → ∃ o, w2.heap[w.heap.size + 1]? = some o ∧ p o := fun h => (h.ok _ (List.mem_append_right _ List.mem_cons_self)).2
  have hy : ∀ x av, Good x av → SatY P (w.heap.size + 1) av w0 (Rs x ++ Br) (fun u L' => (u = .bool true ∧ ∃ X', Next x av X' ∧ L' = X' ++ Br) ∨ (u = .bool false ∧ ∃ c X', Stop x av c X' ∧ L' = X' ++ Bd c)) := by
    intro x av hgood w2 hp2
    obtain ⟨o, hl, rfl⟩ := hl_of hp2
    have hrun := run_yield (P := P) (args := av.toArray) hl (by rw [hrec]; simpa using hps x av hgood)
    refine ⟨_, _, _, _, hrun, roundIn_of_wpIn trivial ?_⟩
    have hfr : Fr n { tmps := (rec.params.zip av.toArray).foldl (fun tmps (t, a) => tmps.setIfInBounds t a) rec.tmps, defers := [] } (putsF (resetD F) ps av) := by
      rw [hrec]
      have := Fr.puts ps av hf.reset (hps x av hgood)
      simpa using this
    have ha := (hbody (w.heap.size + 1) Br Bb x av hgood).use w2 _ hfr hp2
    rw [hrec] at ha ⊢
    refine wpIn_mono ha ?_
    rintro e a3 w3 ⟨F3, L3, hf3, hp3, hq3⟩
    cases e with
    | normal =>
      obtain ⟨Y, he3, hok⟩ := hq3
      have hp3' := he3.use _ hp3
      obtain ⟨o, hl3, ho⟩ := hl_of hp3'
      have ho' : o = .loop rec := ho
      subst ho'
      refine ⟨_, run_beginRound hl3 hst, ?_⟩
      have hp4 : Hp w0.heap.size w0 (w3.putObj (w.heap.size + 1) (.loop { rec with state := .busy })) (Y ++ Bb) := hp3'.putTail rfl
      refine wpIn_mono (hok.use _ a3 hf3 hp4) ?_
      have fin : ∀ (jump : Option Code) (w5 : World) (X' : List Res), Hp w0.heap.size w0 w5 (X' ++ Bb) →
          (Instr.endRound (w.heap.size + 1) jump).run P w5 = .ok (.bool jump.isNone) (w5.putObj (w.heap.size + 1) (.loop { rec with state := if jump.isNone then .ready else .done, pending := jump })) := fun jump w5 X' h5 => by
        obtain ⟨o, hl5, ho⟩ := hl_of h5
        have ho' : o = .loop { rec with state := .busy } := ho
        subst ho'
        exact run_endRound (r := { rec with state := .busy }) jump hl5
      rintro e a5 w5 ⟨F5, L5, hf5, hp5, hq5⟩
      cases e with
      | normal =>
        obtain ⟨X', he5, hn⟩ := hq5
        have hp5' := he5.use _ hp5
        refine ⟨_, _, fin none w5 X' hp5', _, _, rfl, hp5'.putTail (p' := pr) ?_, .inl ⟨rfl, X', hn, rfl⟩⟩
        show Obj.loop _ = Obj.loop rec
        congr 1
      | ret =>
        obtain ⟨X', he5, hn⟩ := hq5
        have hp5' := he5.use _ hp5
        exact ⟨_, _, fin (some .ret) w5 X' hp5', _, _, rfl, hp5'.putTail (p' := pd .ret) rfl, .inr ⟨rfl, .ret, X', hn, rfl⟩⟩
      | exit id =>
        obtain ⟨X', he5, hn⟩ := hq5
        have hp5' := he5.use _ hp5
        exact ⟨_, _, fin (some (.exit id)) w5 X' hp5', _, _, rfl, hp5'.putTail (p' := pd (.exit id)) rfl, .inr ⟨rfl, .exit id, X', hn, rfl⟩⟩
      | goto t => exact hq5.elim
      | panic c => exact hq5.elim
      | outgrown => exact hq5.elim
    | ret => exact hq3.elim
    | exit id => exact hq3.elim
    | goto t => exact hq3.elim
    | panic c => exact hq3.elim
    | outgrown => exact hq3.elim
  have hsat := hiter (w.heap.size + 1) Br Bd hy
  have hfin : ∀ _ : World, Fr n { a with defers := [{ target := .collected w.heap.size, args := #[] }] ++ a.defers } (pushD F w.heap.size) := fun _ => ⟨by rw [marks_push, ← hf.defers]; rfl, hf.size, hf.at'⟩
  refine ⟨w.heap.size + 1, [{ target := .collected w.heap.size, args := #[] }], w1, { target := .fn (.func gf) lb.toArray, args := #[.func (.yield (w.heap.size + 1)) #[] #[]] }, w1, gf,
    #[.func (.yield (w.heap.size + 1)) #[] #[]] ++ lb.toArray, w1, ?_, ?_, fun _ _ => trivial, ?_, (fun h => by cases h), ?_⟩
  · rw [hw1, hrec]; exact run_enterLoop_outer _ _ _ _ _
  · simp only [resolve, hf.eval, hg]
    simp [go_sem]
    rfl
  · have := he.run (#[.func (.yield (w.heap.size + 1)) #[] #[]] ++ lb.toArray) w1
    simp [invoke, go_sem] at this ⊢
    exact this
  · have hargs : #[Value.func (.yield (w.heap.size + 1)) #[] #[]] ++ lb.toArray = (Value.func (.yield (w.heap.size + 1)) #[] #[] :: lb).toArray := by simp
    rw [hargs]
    refine callsIn_wide.2 ((hsat.calls w1 hp1).mono ?_)
    rintro e w9 ⟨v, L9, rfl, hp9, h9⟩
    have tail : ∀ (X' : List Res) (p : Obj → Prop) (st : LoopState) (pe : Option Code), Hp w0.heap.size w0 w9 (X' ++ [.obj (w.heap.size + 1) p, .mark w.heap.size]) → (∀ o, p o → o = .loop { rec with state := st, pending := pe }) → st ≠ .busy →
        ∃ w10, (Instr.endLoop (w.heap.size + 1)).run P w9 = .ok pe w10 ∧ Hp w0.heap.size w0 w10 (.mark w.heap.size :: X') := fun X' p st pe h hp' hb => by
      obtain ⟨o, hl9, ho⟩ := hl_of h
      rw [hp' o ho] at hl9
      refine ⟨_, run_endLoop hl9 hb, ?_⟩
      have h10 := h.putTail (o := .loop { rec with state := .exhausted, pending := pe }) (p' := fun _ => True) trivial
      exact (h10.perm (List.perm_append_comm (l₁ := [.obj (w.heap.size + 1) (fun _ => True), .mark w.heap.size]) (l₂ := X'))).drop1
    rcases h9 with ⟨X', hd, rfl⟩ | ⟨c, X', hs, rfl⟩
    · obtain ⟨w10, hrun, hp10⟩ := tail X' pr .ready none hp9 (fun o ho => by rw [show o = .loop rec from ho, hself]) (by decide)
      exact ⟨none, w10, hrun, pushD F w.heap.size, _, hfin w10, hp10, hdone _ X' hd⟩
    · obtain ⟨w10, hrun, hp10⟩ := tail X' (pd c) .done (some c) hp9 (fun o ho => ho) (by decide)
      refine ⟨some c, w10, hrun, ?_⟩
      rcases hstop w.heap.size c X' hs with ⟨rfl, hq⟩ | ⟨id, rfl, hq⟩
      · exact wpIn_ret ⟨pushD F w.heap.size, _, hfin w10, hp10, hq⟩
      · exact wpIn_exit ⟨pushD F w.heap.size, _, hfin w10, hp10, hq⟩
def bodyM (P : Program) (n : Nat) (w0 : World) (rs : List ResultVar) (R : Value → List Res → Prop) : Exit → Fm → List Res → Prop
  | .normal, F, L => ∃ (Ds : List Nat) (vs : List Value) (L1 L' : List Res), marksV (F none) = Ds.map (fun D => { target := .collected D, args := #[] }) ∧ Ent w0 L (Ds.map Res.mark ++ L1) ∧ allRes P n F L1 rs vs ∧ Ent w0 L1 L' ∧ R (packV vs) L'
  | .ret, F, L => ∃ (Ds : List Nat) (vs : List Value) (L1 L' : List Res), marksV (F none) = Ds.map (fun D => { target := .collected D, args := #[] }) ∧ Ent w0 L (Ds.map Res.mark ++ L1) ∧ allRes P n F L1 rs vs ∧ Ent w0 L1 L' ∧ R (packV vs) L'
  | _, _, _ => False
theorem take_mark {w : World} {D : Nat} {L : List Res} (h : Hp w0.heap.size w0 w (.mark D :: L)) : (Instr.takeDeferred D).run P w = .ok [] (w.putObj D (.deferred none)) ∧ Hp w0.heap.size w0 (w.putObj D (.deferred none)) L := by
  have hok : w0.heap.size ≤ D ∧ w.heap[D]? = some (.deferred (some [])) := h.ok _ List.mem_cons_self
  have hlt := (Array.getElem?_eq_some_iff.1 hok.2).1
  refine ⟨run_takeDeferred hok.2, ?_⟩
  have := h.turn (i := 0) rfl (w' := w.putObj D (.deferred none)) (r' := .obj D (fun _ => True)) (grownBy_putObj' w D _) ⟨hok.1, _, World.putObj_heap_same hlt, trivial⟩ (fun k hk => .inl hk)
  exact this.drop1
theorem SatL.ofM {f : FuncId} {fn : Func} {c : Code} {args : List Value} {R : Value → List Res → Prop} (N : Nat) (rs : List ResultVar) (hf : P.funcs[f]? = some fn) (hN : fn.ntmps = N) (hnm : (fn.name == "runtime.NumGoroutine") = false) (hb : fn.body = some c)
    (hres : fn.results = rs.toArray) (hlen : Nat.ble args.length N = true) (h : OK P N w0 (bodyM P N w0 rs R) c (argF args) L) : SatL P f args w0 L R := by
  refine ⟨⟨fn, c, hf, hnm, hb⟩, fun w hp => ?_⟩
  refine (callsIn_wide (n := 0)).1 (callsIn_of_wp_marks hf hb trivial ((wpIn_wide (n := 0)).2 ?_))
  subst hN
  have hlen' : args.length ≤ fn.ntmps := by rwa [Nat.ble_eq] at hlen
  have hfr : Fr fn.ntmps { tmps := args.toArray ++ Array.replicate (fn.ntmps - args.toArray.size) undef, defers := [] } (argF args) := by
    refine ⟨rfl, by simp;omega, fun t ht => ?_⟩
    simp only [Array.getD_eq_getD_getElem?, argF, List.getD_eq_getElem?_getD]
    by_cases h : t < args.length
    · rw [Array.getElem?_append_left (by simpa using h)]
      simp
    · rw [Array.getElem?_append_right (by simpa using Nat.le_of_not_lt h), List.getElem?_eq_none (by omega)]
      simp only [List.size_toArray, Array.getElem?_replicate]
      split <;> rfl
  have key : ∀ (a' : Act) (w' : World) (F' : Fm) (L' : List Res) (vs : List Value), Fr fn.ntmps a' F' → Hp w0.heap.size w0 w' L' → allRes P fn.ntmps F' L' rs vs → (results fn a'.tmps).run P w' = .ok (packV vs) w' := by
    intro a' w' F' L' vs h1 h2 h3
    unfold results
    rw [hres, List.mapM_toArray]
    simp only [Sem.run_bind, Sem.run_map]
    rw [mapM_run (n := fn.ntmps) (F := F') (L := L') ?_ rs vs h3]
    · rcases vs with _ | ⟨v, _ | ⟨v2, vs⟩⟩ <;> simp [packV, Result.andThen]
    · intro r v h
      cases r with
      | tmp t =>
        have he : a'.tmps.getD t undef = v := (congrFun h1.eval (.tmp t)).trans h
        simp only [Sem.run_pure, he]
      | cell t tt =>
        obtain ⟨g, i, e, cs, h2', h3', h4⟩ := h
        have he : a'.tmps.getD t undef = .pointer (some ⟨g, 0, none⟩) := (congrFun h1.eval (.tmp t)).trans h2'
        have h5 := h4 w' (h2.boxAt i h3').1
        simp only [Sem.run_bind, Sem.run_pure, Result.andThen, he, asAddr, h5]
  have fin : ∀ (a' : Act) (F' : Fm) (vs : List Value) (L1 L' : List Res), Fr fn.ntmps a' F' → allRes P fn.ntmps F' L1 rs vs → Ent w0 L1 L' → R (packV vs) L' → ∀ (Ds : List Nat) (w' : World), Hp w0.heap.size w0 w' (Ds.map Res.mark ++ L1) →
      LeavesInM Fence.wide 0 P fn a'.tmps (fun e w' => ∃ v L', e = .returned v ∧ Hp w0.heap.size w0 w' L' ∧ R v L') (Ds.map (fun D => { target := .collected D, args := #[] })) .returning w' := by
    intro a' F' vs L1 L' h1 h3 he hR Ds
    induction Ds with
    | nil =>
      intro w' hp'
      exact ⟨_, key _ _ _ _ _ h1 hp' h3, _, L', rfl, he.use _ hp', hR⟩
    | cons D Ds ih =>
      intro w' hp'
      obtain ⟨h4, h5⟩ := take_mark (P := P) hp'
      exact ⟨by simp, .inl ⟨D, _, rfl, h4, ih _ h5⟩⟩
  refine wp_mono (h.use w _ hfr hp) ?_
  rintro e a' w' ⟨F', L2, h1, h2, h3⟩
  unfold bodyM at h3
  cases e with
  | normal =>
    obtain ⟨Ds, vs, L1, L', hm, he, hall, he2, hR⟩ := h3
    show LeavesInM _ _ _ _ _ _ _ _ _
    rw [h1.defers, hm]
    exact fin a' F' vs L1 L' h1 hall he2 hR Ds w' (he.use _ h2)
  | ret =>
    obtain ⟨Ds, vs, L1, L', hm, he, hall, he2, hR⟩ := h3
    show LeavesInM _ _ _ _ _ _ _ _ _
    rw [h1.defers, hm]
    exact fin a' F' vs L1 L' h1 hall he2 hR Ds w' (he.use _ h2)
  | _ => exact h3.elim
end
attribute [irreducible] bodyM
end Go.Proofs.YthnlnffmmioapaaGreatDoor
namespace Go.Proofs.YthnlnffmmioapaaGreatDoor
open Go.RowKit
theorem swapE {w0 : World} (J Z B : List Res) : Ent w0 ((J ++ Z) ++ B) (Z ++ (J ++ B)) := by
  refine Ent.perm ?_
  rw [← List.append_assoc Z J B]
  exact List.perm_append_comm.append_right B
theorem swapF {w0 : World} (J Z B : List Res) : Ent w0 (Z ++ (J ++ B)) ((J ++ Z) ++ B) := by
  refine Ent.perm ?_
  rw [← List.append_assoc Z J B]
  exact List.perm_append_comm.append_right B
theorem SatY.mono2 {P : Program} {l : Nat} {args : List Value} {w0 : World} {L : List Res} {R R' : Value → List Res → Prop} (h : SatY P l args w0 L R) (hr : ∀ v L, R v L → R' v L) : SatY P l args w0 L R' :=
  fun w hp => let ⟨fn, t, as2, b, h1, h2⟩ := h w hp; ⟨fn, t, as2, b, h1, h2.mono fun e w' ⟨v, L', a, b, c⟩ => ⟨v, L', a, b, hr _ _ c⟩⟩
theorem take_pre {α : Type} (xs : List α) (k : Nat) : xs.take k <+: xs := List.take_prefix k xs
theorem bodyM_e1 {P : Program} {n : Nat} {w0 : World} {F : Fm} {L : List Res} {ex : Exit} {r1 : ResultVar} {v1 : Value} {R : Value → List Res → Prop} (D : Nat) (hx : ex = .normal ∨ ex = .ret) (h1 : resIs P n F L r1 v1) (h : ∃ L', Ent w0 L L' ∧ R v1 L') (hm : marksV (F none) = [{ target := .collected D, args := #[] }]) : bodyM P n w0 [r1] R ex F (.mark D :: L) := by
  unfold bodyM
  obtain ⟨L', e, hR⟩ := h
  rcases hx with rfl | rfl <;> exact ⟨[D], [v1], L, L', hm, Ent.refl _ _, ⟨h1, trivial⟩, e, hR⟩
theorem upN1 (F : Fm) (i : Nat) (v : Value) : updo F (some i) v none = F none := rfl
theorem upN2 (F : Fm) (v : Value) : updo F none v none = F none := rfl
theorem SatL.monoE {P : Program} {f : FuncId} {args : List Value} {w0 : World} {L : List Res} {R R' : Value → List Res → Prop} (h : SatL P f args w0 L R) (hr : ∀ v L, R v L → ∃ L', Ent w0 L L' ∧ R' v L') : SatL P f args w0 L R' :=
  ⟨h.enters, fun w hp => (h.calls w hp).mono fun _ w' ⟨v, L1, h1, h2, h3⟩ => let ⟨L2, e, h4⟩ := hr v L1 h3; ⟨v, L2, h1, e.use w' h2, h4⟩⟩
theorem Ent.rot2 {w0 : World} (a b : Res) (Z : List Res) : Ent w0 (a :: b :: Z) (Z ++ [a, b]) := Ent.perm (by
  have h : ([a, b] ++ Z).Perm (Z ++ [a, b]) := List.perm_append_comm
  exact h)
end Go.Proofs.YthnlnffmmioapaaGreatDoor
